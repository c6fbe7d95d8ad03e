/-
  FrontAssigns, part 21.
-/
import Derived.Test.YtanpgonfloohoaaGreatDoorA10
set_option linter.unusedSimpArgs false
set_option linter.unusedVariables false
/-
  The same evaluator, in forms that the kernel reckons fast.
-/
open Bool renaming cond_eq_ite->qOx,and_eq_true->qOy,false_eq_true->qOF
open Nat renaming eq_of_beq_eq_true->qOz,le_refl->qOB,beq->qOC,le_of_ble_eq_true->qOH
open Option renaming bind_eq_some_iff->qOA,bind_eq_bind->qOD,pure_def->qOE,map_some->qOG
namespace W
open Go (IntKind BinOp UnOp)
noncomputable def fget (n:Nat) (e:Env):V:=List.rec (motive:=fun _=>V) .undef (fun p _ ih=>Bool.rec ih p.2 (qOC n p.1)) e
theorem yG (n:Nat) (e:Env):fget n e=get n e:=by
 induction e with
 | nil=>rfl
 | cons p e ih=>
  obtain ⟨m,v⟩:=p
  show Bool.rec (fget n e) v (qOC n m)=bif qOC n m then v else get n e
  rw [ih]
  cases qOC n m<;>rfl
noncomputable def qyp {α:Type} (l:List α) (n:Nat):Option α:=
 List.rec (motive:=fun _=>Nat->Option α) (fun _=>none) (fun x _ ih n=>Nat.rec (motive:=fun _=>Option α) (some x) (fun m _=>ih m) n) l n
theorem qvk {α:Type} (l:List α) (n:Nat):qyp l n=l[n]?:=by
 induction l generalizing n with
 | nil=>rfl
 | cons x l ih=>
  cases n with
  | zero=>rfl
  | succ n=>exact ih n
noncomputable def tl4 {α:Type} (l:List α):List α:=List.rec (motive:=fun _=>List α) [] (fun _ t _=>List.rec (motive:=fun _=>List α) [] (fun _ t _=>List.rec (motive:=fun _=>List α) [] (fun _ t _=>List.rec (motive:=fun _=>List α) [] (fun _ t _=>t) t) t) t) l
theorem qHk {α:Type} (l:List α):tl4 l=l.drop 4:=by
 rcases l with _|⟨_,_|⟨_,_|⟨_,_|⟨_,l⟩⟩⟩⟩<;>rfl
noncomputable def qwc {α:Type} (l:List α) (q:Nat):List α:=Nat.rec (motive:=fun _=>List α) l (fun _ ih=>tl4 (tl4 (tl4 (tl4 ih)))) q
theorem qqR {α:Type} (l:List α):∀q,qwc l q=l.drop (16 * q)
 | 0=>rfl
 | q+1=>by
  show tl4 (tl4 (tl4 (tl4 (qwc l q))))=_
  simp only [qHk,qqR l q,List.drop_drop]
  congr 1
noncomputable def fnth {α:Type} (l:List α) (n:Nat):Option α:=
 Nat.rec (motive:=fun _=>Option α) (qyp l n) (fun q _=>qyp (qwc l (Nat.succ q)) (Nat.mod n 16)) (Nat.div n 16)
theorem zI {α:Type} (l:List α) (n:Nat):fnth l n=l[n]?:=by
 unfold fnth
 have e:Nat.div n 16=n / 16:=rfl
 rw [e]
 cases hq:n / 16 with
 | zero=>exact qvk l n
 | succ q=>
  show qyp (qwc l (q+1)) (n % 16)=_
  rw [qvk,qqR,List.getElem?_drop]
  congr 1
  omega
noncomputable def frd (e:Env) (o:O):V:=O.rec (motive:=fun _=>V) (fun n=>qgG n (fget n e)) (fun x=>.d x) (fun i=>.fn i [] []) (fun n=>qiA (fget n e)) (fun _ x=>.cp x) o
theorem yT (e:Env) (o:O):frd e o=rd e o:=by cases o<;>simp only [frd,yG]<;>rfl
noncomputable def ql {α:Type} (a:Nat) (k:Nat->α):α:=Nat.rec (motive:=fun _=>α) (k 0) (fun m _=>k (Nat.succ m)) a
noncomputable def qqi {α:Type} (n:Int) (k:Int->α):α:=Int.rec (motive:=fun _=>α) (fun a=>ql a fun a=>k (.ofNat a)) (fun a=>ql a fun a=>k (.negSucc a)) n
noncomputable def qww {α:Type} (b:Bool) (k:Bool->α):α:=Bool.rec (motive:=fun _=>α) (k false) (k true) b
theorem kF {α:Type} (a:Nat) (k:Nat->α):ql a k=k a:=by cases a<;>rfl
theorem qoP {α:Type} (n:Int) (k:Int->α):qqi n k=k n:=by
 cases n with
 | ofNat a=>exact kF a fun a=>k (.ofNat a)
 | negSucc a=>exact kF a fun a=>k (.negSucc a)
theorem qsu {α:Type} (b:Bool) (k:Bool->α):qww b k=k b:=by cases b<;>rfl
noncomputable def qBV {α:Type} (l:List Nat) (k:List Nat->α):α:=
 List.rec (motive:=fun _=>(List Nat->α)->α) (fun k=>k []) (fun x _ ih k=>ih fun r=>k (x::r)) l k
theorem qyP {α:Type} (l:List Nat) (k:List Nat->α):qBV l k=k l:=by
 induction l generalizing k with
 | nil=>rfl
 | cons x l ih=>exact ih fun r=>k (x::r)
noncomputable def zV {β α:Type} (f:β->(β->α)->α) (l:List β) (k:List β->α):α:=
 List.rec (motive:=fun _=>(List β->α)->α) (fun k=>k []) (fun x _ ih k=>f x fun x=>ih fun r=>k (x::r)) l k
theorem kn {β α:Type} {f:β->(β->α)->α} (hf:∀x k,f x k=k x) (l:List β) (k:List β->α):zV f l k=k l:=by
 induction l generalizing k with
 | nil=>rfl
 | cons x l ih=>exact (hf x fun x=>zV f l fun r=>k (x::r)).trans (ih fun r=>k (x::r))
noncomputable def qju {α:Type} (x:D) (k:D->α):α:=
 D.casesOn (motive_1:=fun _=>α) x (fun z=>qww z fun z=>k (.b z)) (fun kk n=>qqi n fun n=>k (.i kk n)) (fun t=>k (.s t)) (k .nil) (fun xs=>k (.sl xs)) (fun cs=>k (.agg cs)) (k .np) (k .nf) (k .ni) (k .nm)
theorem qck {α:Type} (x:D) (k:D->α):qju x k=k x:=by
 cases x with
 | b z=>exact qsu z fun z=>k (.b z)
 | i kk n=>exact qoP n fun n=>k (.i kk n)
 | _=>rfl
noncomputable def qwT {α:Type} (x:D) (k:D->α):α:=
 D.casesOn (motive_1:=fun _=>α) x (fun z=>qww z fun z=>k (.b z)) (fun kk n=>qqi n fun n=>k (.i kk n)) (fun t=>qBV t fun t=>k (.s t)) (k .nil) (fun xs=>zV qju xs fun xs=>k (.sl xs)) (fun cs=>zV qju cs fun cs=>k (.agg cs)) (k .np) (k .nf) (k .ni) (k .nm)
theorem qsr {α:Type} (x:D) (k:D->α):qwT x k=k x:=by
 cases x with
 | b z=>exact qsu z fun z=>k (.b z)
 | i kk n=>exact qoP n fun n=>k (.i kk n)
 | s t=>exact qyP t fun t=>k (.s t)
 | sl xs=>exact kn qck xs fun xs=>k (.sl xs)
 | agg xs=>exact kn qck xs fun xs=>k (.agg xs)
 | _=>rfl
noncomputable def jE {α:Type} (v:V) (k:V->α):α:=
 V.casesOn (motive_1:=fun _=>α) v (fun x=>qju x fun x=>k (.d x)) (fun xs=>k (.osl xs)) (fun xs=>k (.fsl xs)) (fun i o=>ql i fun i=>ql o fun o=>k (.ptr i o)) (fun i o=>ql i fun i=>ql o fun o=>k (.lp i o)) (fun cs=>k (.box cs)) (fun x=>k (.cp x))
  (fun i o n c=>k (.rs i o n c)) (fun i o n=>ql i fun i=>ql o fun o=>ql n fun n=>k (.row i o n)) (fun i=>ql i fun i=>k (.map i)) (fun f a b=>k (.fn f a b)) (fun t x=>k (.ifc t x)) (fun cs=>k (.agg cs)) (fun vs=>k (.tup vs)) (k .undef)
theorem zz {α:Type} (v:V) (k:V->α):jE v k=k v:=by
 cases v with
 | d x=>exact qck x fun x=>k (.d x)
 | _=>simp only [jE,kF]
noncomputable def qdp {α:Type} (v:V) (k:V->α):α:=
 V.casesOn (motive_1:=fun _=>α) v (fun x=>qwT x fun x=>k (.d x)) (fun xs=>zV qju xs fun xs=>k (.osl xs)) (fun xs=>zV qju xs fun xs=>k (.fsl xs)) (fun i o=>ql i fun i=>ql o fun o=>k (.ptr i o)) (fun i o=>ql i fun i=>ql o fun o=>k (.lp i o)) (fun cs=>zV jE cs fun cs=>k (.box cs)) (fun x=>qju x fun x=>k (.cp x))
  (fun i o n c=>ql i fun i=>ql o fun o=>ql n fun n=>ql c fun c=>k (.rs i o n c)) (fun i o n=>ql i fun i=>ql o fun o=>ql n fun n=>k (.row i o n)) (fun i=>ql i fun i=>k (.map i)) (fun f a b=>ql f fun f=>k (.fn f a b)) (fun t x=>k (.ifc t x)) (fun cs=>zV jE cs fun cs=>k (.agg cs)) (fun vs=>zV jE vs fun vs=>k (.tup vs)) (k .undef)
theorem qcw {α:Type} (v:V) (k:V->α):qdp v k=k v:=by
 cases v with
 | d x=>exact qsr x fun x=>k (.d x)
 | osl xs=>exact kn qck xs fun xs=>k (.osl xs)
 | fsl xs=>exact kn qck xs fun xs=>k (.fsl xs)
 | box cs=>exact kn zz cs fun cs=>k (.box cs)
 | cp x=>exact qck x fun x=>k (.cp x)
 | agg cs=>exact kn zz cs fun cs=>k (.agg cs)
 | tup cs=>exact kn zz cs fun cs=>k (.tup cs)
 | _=>simp only [qdp,kF]
noncomputable def qBG {α:Type} (o:Obj) (k:Obj->α):α:=
 Obj.casesOn (motive:=fun _=>α) o (fun cs=>zV jE cs fun cs=>k (.cells cs)) (fun es=>zV (fun p k=>jE p.2 fun v=>k (p.1,v)) es fun es=>k (.map es)) (fun l cs=>zV jE cs fun cs=>k (.row l cs)) (k .dead) (fun i=>ql i fun i=>k (.iter i))
theorem qzR {α:Type} (o:Obj) (k:Obj->α):qBG o k=k o:=by
 cases o with
 | cells cs=>exact kn zz cs fun cs=>k (.cells cs)
 | map es=>exact kn (fun p k=>zz p.2 fun v=>k (p.1,v)) es fun es=>k (.map es)
 | row l cs=>exact kn zz cs fun cs=>k (.row l cs)
 | dead=>rfl
 | iter i=>exact kF i fun i=>k (.iter i)
noncomputable def qAC {α:Type} (H:List Obj) (k:List Obj->α):α:=zV (fun o k=>qBG o k) H k
theorem qzP {α:Type} (H:List Obj) (k:List Obj->α):qAC H k=k H:=kn qzR _ _
noncomputable def qxQ {α:Type} (o:Obj) (k:Obj->α):α:=
 Obj.casesOn (motive:=fun _=>α) o (fun cs=>zV jE cs fun cs=>k (.cells cs)) (fun es=>zV (fun p k=>jE p.2 fun v=>k (p.1,v)) es fun es=>k (.map es)) (fun l cs=>zV (fun v k=>k v) cs fun cs=>k (.row l cs)) (k .dead) (fun i=>ql i fun i=>k (.iter i))
theorem qyT {α:Type} (o:Obj) (k:Obj->α):qxQ o k=k o:=by
 cases o with
 | cells cs=>exact kn zz cs fun cs=>k (.cells cs)
 | map es=>exact kn (fun p k=>zz p.2 fun v=>k (p.1,v)) es fun es=>k (.map es)
 | row l cs=>exact kn (fun _ _=>rfl) cs fun cs=>k (.row l cs)
 | dead=>rfl
 | iter i=>exact kF i fun i=>k (.iter i)
noncomputable def qBt (l:List Obj):Bool:=List.rec (motive:=fun _=>Bool) true (fun _ _ _=>false) l
noncomputable def qok {α:Type} (f:Obj->(Obj->α)->α) (H:List Obj) (k:List Obj->α):α:=
 List.rec (motive:=fun _=>(List Obj->α)->α) (fun k=>k []) (fun o t ih k=>Bool.rec (motive:=fun _=>α) (f o fun o=>ih fun t=>k (o::t)) (qxQ o fun o=>k [o]) (qBt t)) H k
theorem qwg {α:Type} {f:Obj->(Obj->α)->α} (hf:∀o k,f o k=k o) (H:List Obj) (k:List Obj->α):qok f H k=k H:=by
 induction H generalizing k with
 | nil=>rfl
 | cons o t ih=>
  show Bool.rec (motive:=fun _=>α) (f o fun o=>qok f t fun t=>k (o::t)) (qxQ o fun o=>k [o]) (qBt t)=_
  cases t with
  | nil=>exact qyT o fun o=>k [o]
  | cons o' t=>
   show (f o fun o=>qok f (o'::t) fun t=>k (o::t))=_
   rw [hf,ih]
noncomputable def qqs {α:Type} (H:List Obj) (k:List Obj->α):α:=qok (fun o k=>k o) H k
theorem qsz {α:Type} (H:List Obj) (k:List Obj->α):qqs H k=k H:=qwg (fun _ _=>rfl) H k
noncomputable def qyv (l:L) (off:Nat) (cs:List V):Option V:=Bool.rec (motive:=fun _=>Option V) ((fnth cs off).map zy) (V.part off l cs) l.agg
noncomputable def qsN (l:L) (st:St) (v:V):Option V:=
 match v with
 | .lp s off=>match fget s st.env with
  | .box cs=>qyv l off cs
  | _=>none
 | .ptr id off=>match fnth st.H id with
  | some (.cells cs)=>qyv l off cs
  | some (.row _ cs)=>qyv l off cs
  | _=>none
 | v=>qF l st v
theorem qIs (l:L) (off:Nat) (cs:List V):qyv l off cs=V.part off l cs:=by
 obtain ⟨n,agg⟩:=l
 cases agg with
 | true=>rfl
 | false=>show (fnth cs off).map zy=_;rw [zI];simp [V.part]
theorem qxM:qsN=qF:=by
 funext l st v
 cases v<;>simp only [qsN,qIs,yG,zI]<;>rfl
noncomputable def qIS (x:O) (st:St):Option Or:=ok (frd st.env x) {st with env:=spent x st.env}
noncomputable def qA1 (c:O) (a:O) (b:O) (st:St):Option Or:=
 match frd st.env c with
  | .d (.b z)=>ok (Bool.rec (motive:=fun _=>V) (frd st.env b) (frd st.env a) z) st
  | _=>none
noncomputable def qBv (mv:Bool) (sl:Option Nat) (l:L) (a:O) (st:St):Option Or:=
 Bool.rec (motive:=fun _=>Option Or) (bif !qE sl (frd st.env a) then none else (match qsN l st (frd st.env a) with|some v=>ok v st|none=>none)) (zB true sl l a st) mv
noncomputable def qpm (x:O) (st:St):Option Or:=
 match frd st.env x with
  | .ptr id off=>ok (.ptr id off) st
  | .lp s off=>ok (.lp s off) st
  | .cp y=>ok (.cp y) st
  | _=>none
noncomputable def qFO (op:BinOp) (kd:Kd) (x:O) (y:O) (st:St):Option Or:=
 match qhz op kd (isC x || isC y) (frd st.env x) (frd st.env y) with
  | some v=>ok v st
  | none=>none
noncomputable def qnf (x:O) (off:Nat) (l:L) (st:St):Option Or:=
 match frd st.env x with
  | .ptr id o=>ok (.ptr id (o+off)) st
  | .lp s o=>ok (.lp s (o+off)) st
  | _=>qU x off l st
noncomputable def qm4 (x:O) (i:O) (size:Nat) (arr:Option Nat) (st:St):Option Or:=
 match frd st.env i with
  | .d (.i _ n)=>match arr with
   | some len=>bif leI 0 n && !leI len n then (match frd st.env x with
    | .ptr id o=>ok (.ptr id (o+n.toNat * size)) st
    | .lp s o=>ok (.lp s (o+n.toNat * size)) st
    | .cp (.agg cs)=>bif qOC size 1 then (match fnth cs n.toNat with
     | some y=>if y.one then ok (.cp y) st else none
     | none=>none) else none
    | _=>none) else none
   | none=>bif leI 0 n then (match frd st.env x with
    | .d (.sl xs)=>match fnth xs n.toNat with
     | some y=>bif qOC y.cells.length size then ok (.cp y) st else none
     | none=>none
    | .rs id o len _=>bif !leI len n && qOC size 1 then ok (.ptr id (o+n.toNat)) st else none
    | .row id sz len=>bif !leI len n && qOC size sz then ok (.ptr id (n.toNat * sz)) st else none
    | _=>none) else none
  | _=>none
noncomputable def qwM (x:O) (i:O) (st:St):Option Or:=
 match frd st.env x,frd st.env i with
  | .d (.s t),.d (.i _ n)=>bif leI 0 n then (match fnth t n.toNat with
    | some y=>ok (.d (.i .u8 y)) st
    | none=>none) else none
  | _,_=>none
noncomputable def qrs (x:O) (i:Nat) (st:St):Option Or:=
 match x with
  | .t n=>match fget n st.env with
   | .tup vs=>match fnth vs i with
    | some v=>ok (copy v) st
    | none=>none
   | _=>none
  | _=>none
noncomputable def z0 {α:Type} (l:List α):Nat:=List.rec (motive:=fun _=>Nat) 0 (fun _ _ ih=>Nat.succ ih) l
theorem kc {α:Type} (l:List α):z0 l=l.length:=by
 induction l with
 | nil=>rfl
 | cons x l ih=>simp only [List.length_cons,<- ih];rfl
noncomputable def qFl (x:O) (st:St):Option Or:=
 match frd st.env x with
  | .d (.s t)=>ok (.d (.i .i64 (z0 t))) st
  | _=>none
noncomputable def qFa (x:O) (st:St):Option Or:=
 match frd st.env x with
  | .d .nil=>ok (.d (.i .i64 0)) st
  | .d (.sl xs)=>ok (.d (.i .i64 (z0 xs))) st
  | .rs _ _ n _=>ok (.d (.i .i64 n)) st
  | .row _ _ n=>ok (.d (.i .i64 n)) st
  | _=>none
noncomputable def fBi (b:Bi) (args:List O) (st:St):Option Or:=
 match b,args with
  | .lenS,[x]=>qFl x st
  | .lenL,[x]=>qFa x st
  | b,l=>eBi b l st
noncomputable def qfU (call:Call) (k:OpK) (st:St):Option Or:=
 match k with
 | .mov x=>qIS x st
 | .pick c a b=>qA1 c a b st
 | .load mv sl l a=>qBv mv sl l a st
 | .nilCheck x=>qpm x st
 | .bin op kd x y=>qFO op kd x y st
 | .fieldAddr x off l=>qnf x off l st
 | .indexAddr x i size arr=>qm4 x i size arr st
 | .index x i=>qwM x i st
 | .extract x i=>qrs x i st
 | .bi b args=>fBi b args st
 | k=>qa call k st
theorem qzV:qfU=qa:=by
 funext call k st
 cases k with
 | mov x=>simp only [qfU,qIS,yT];rfl
 | pick c a b=>
  simp only [qfU,qA1,yT,qa,qfK]
  cases rd st.env c with
  | d w=>cases w with
   | b z=>cases z<;>rfl
   | _=>rfl
  | _=>rfl
 | load mv sl l a=>cases mv<;>simp only [qfU,qBv,yT,qxM]<;>rfl
 | nilCheck x=>simp only [qfU,qpm,yT];rfl
 | bin op kd x y=>simp only [qfU,qFO,yT];rfl
 | fieldAddr x off l=>
  simp only [qfU,qnf,yT,qa]
  split<;>rename_i h<;>(try simp only [qU,h])
 | indexAddr x i size arr=>simp only [qfU,qm4,yT,zI];rfl
 | index x i=>simp only [qfU,qwM,yT,zI];rfl
 | extract x i=>simp only [qfU,qrs,yG,zI];rfl
 | bi b args=>
  simp only [qfU,fBi,qa]
  split
  ·rename_i x;simp only [qFl,yT,kc];rfl
  ·rename_i x
   simp only [qFa,yT,kc]
   show _=qcZ x st
   unfold qcZ
   cases rd st.env x with
   | d w=>cases w<;>rfl
   | _=>rfl
  ·rfl
 | _=>rfl
noncomputable def makes (k:OpK):Bool:=
 match k with
 | .mov _=>false
 | .load _ _ _ _=>false
 | .extract _ _=>false
 | .pick _ _ _=>false
 | .nilCheck _=>false
 | .store _ _ _ _=>false
 | .call _ _=>false
 | .indexAddr _ _ _ _=>false
 | .fieldAddr _ _ _=>false
 | .field _ _ _=>false
 | _=>true
noncomputable def qqw {α:Type} (m:Bool) (v:V) (k:V->α):α:=Bool.rec (motive:=fun _=>α) (jE v k) (qdp v k) m
theorem qsH {α:Type} (m:Bool) (v:V) (k:V->α):qqw m v k=k v:=by
 cases m
 ·exact zz v k
 ·exact qcw v k
end W
/-
  Code turned into closures, which the kernel works out once; each operation its own closure.
-/
namespace W
open Go (IntKind BinOp UnOp)
abbrev R:=Option (Ex × St)
abbrev KF:=Call->Nat->Env->List Obj->Nat->R
inductive K where
 | mk (f:KF)
noncomputable def K.run (k:K):KF:=K.rec (motive:=fun _=>KF) (fun f=>f) k
inductive KO where
 | mk (f:Env->V)
noncomputable def KO.run (k:KO):Env->V:=KO.rec (motive:=fun _=>Env->V) (fun f=>f) k
noncomputable def kH (o:O):KO:=O.rec (motive:=fun _=>KO) (fun n=>.mk fun e=>fget n e) (fun x=>.mk fun _=>.d x) (fun i=>.mk fun _=>.fn i [] []) (fun n=>.mk fun e=>qiA (fget n e)) (fun _ x=>.mk fun _=>.cp x) o
def V.isBox:V->Bool
 | .box _=>true
 | _=>false
def V.pl:V->Prop
 | .box _=>False
 | .osl _=>False
 | .agg _=>False
 | _=>True
theorem ke {o:O} {e:Env} (h:((kH o).run e).pl):rd e o=(kH o).run e:=by
 cases o with
 | t n=>
  have h:(fget n e).pl:=h
  show qgG n (get n e)=fget n e
  rw [<- yG]
  cases hv:fget n e<;>rw [hv] at h<;>first|rfl|exact h.elim
 | mv n=>
  show qiA (get n e)=qiA (fget n e)
  rw [yG]
 | _=>rfl
inductive OI where
 | no
 | yes (k:IntKind) (n:Int)
noncomputable def vI (v:V):OI:=V.rec (motive_1:=fun _=>OI) (motive_2:=fun _=>OI) (fun x=>D.rec (motive_1:=fun _=>OI) (motive_2:=fun _=>OI) (fun _=>.no) (fun k n=>.yes k n) (fun _=>.no) .no (fun _ _=>.no) (fun _ _=>.no) .no .no .no .no .no (fun _ _ _ _=>.no) x) (fun _=>.no) (fun _=>.no) (fun _ _=>.no) (fun _ _=>.no) (fun _ _=>.no) (fun _=>.no) (fun _ _ _ _=>.no) (fun _ _ _=>.no) (fun _=>.no) (fun _ _ _ _ _=>.no) (fun _ _ _=>.no) (fun _ _=>.no) (fun _ _=>.no) .no .no (fun _ _ _ _=>.no) v
theorem qf1 {v:V} {k:IntKind} {n:Int} (h:vI v=.yes k n):v=.d (.i k n):=by
 cases v with
 | d x=>cases x with
  | i k' n'=>have h:OI.yes k' n'=.yes k n:=h;cases h;rfl
  | _=>cases h
 | _=>cases h
inductive OB where
 | no|f|t
noncomputable def vB (v:V):OB:=V.rec (motive_1:=fun _=>OB) (motive_2:=fun _=>OB) (fun x=>D.rec (motive_1:=fun _=>OB) (motive_2:=fun _=>OB) (fun y=>Bool.rec (motive:=fun _=>OB) .f .t y) (fun _ _=>.no) (fun _=>.no) .no (fun _ _=>.no) (fun _ _=>.no) .no .no .no .no .no (fun _ _ _ _=>.no) x) (fun _=>.no) (fun _=>.no) (fun _ _=>.no) (fun _ _=>.no) (fun _ _=>.no) (fun _=>.no) (fun _ _ _ _=>.no) (fun _ _ _=>.no) (fun _=>.no) (fun _ _ _ _ _=>.no) (fun _ _ _=>.no) (fun _ _=>.no) (fun _ _=>.no) .no .no (fun _ _ _ _=>.no) v
theorem qOn {v:V} (h:vB v=.t):v=.d (.b true):=by
 cases v with
 | d x=>cases x with
  | b y=>cases y with
   | true=>rfl
   | false=>cases h
  | _=>cases h
 | _=>cases h
theorem qNV {v:V} (h:vB v=.f):v=.d (.b false):=by
 cases v with
 | d x=>cases x with
  | b y=>cases y with
   | false=>rfl
   | true=>cases h
  | _=>cases h
 | _=>cases h
inductive OP where
 | no
 | p (id off:Nat)
 | l (s off:Nat)
 | c (x:D)
noncomputable def vP (v:V):OP:=V.rec (motive_1:=fun _=>OP) (motive_2:=fun _=>OP) (fun _=>.no) (fun _=>.no) (fun _=>.no) (fun a b=>.p a b) (fun a b=>.l a b) (fun _ _=>.no) (fun x=>.c x) (fun _ _ _ _=>.no) (fun _ _ _=>.no) (fun _=>.no) (fun _ _ _ _ _=>.no) (fun _ _ _=>.no) (fun _ _=>.no) (fun _ _=>.no) .no .no (fun _ _ _ _=>.no) v
theorem qMM {v:V} {a b:Nat} (h:vP v=.p a b):v=.ptr a b:=by
 cases v with
 | ptr c d=>have h:OP.p c d=.p a b:=h;cases h;rfl
 | _=>cases h
theorem qOv {v:V} {a b:Nat} (h:vP v=.l a b):v=.lp a b:=by
 cases v with
 | lp c d=>have h:OP.l c d=.l a b:=h;cases h;rfl
 | _=>cases h
theorem qOl {v:V} {x:D} (h:vP v=.c x):v=.cp x:=by
 cases v with
 | cp y=>have h:OP.c y=.c x:=h;cases h;rfl
 | _=>cases h
inductive OL where
 | no|nil
 | sl (xs:List D)
noncomputable def vL (v:V):OL:=V.rec (motive_1:=fun _=>OL) (motive_2:=fun _=>OL) (fun x=>D.rec (motive_1:=fun _=>OL) (motive_2:=fun _=>OL) (fun _=>.no) (fun _ _=>.no) (fun _=>.no) .nil (fun xs _=>.sl xs) (fun _ _=>.no) .no .no .no .no .no (fun _ _ _ _=>.no) x) (fun _=>.no) (fun _=>.no) (fun _ _=>.no) (fun _ _=>.no) (fun _ _=>.no) (fun _=>.no) (fun _ _ _ _=>.no) (fun _ _ _=>.no) (fun _=>.no) (fun _ _ _ _ _=>.no) (fun _ _ _=>.no) (fun _ _=>.no) (fun _ _=>.no) .no .no (fun _ _ _ _=>.no) v
theorem qIa {v:V} (h:vL v=.nil):v=.d .nil:=by
 cases v with
 | d x=>cases x with
  | nil=>rfl
  | _=>cases h
 | _=>cases h
theorem qAA {v:V} {xs:List D} (h:vL v=.sl xs):v=.d (.sl xs):=by
 cases v with
 | d x=>cases x with
  | sl ys=>have h:OL.sl ys=.sl xs:=h;cases h;rfl
  | _=>cases h
 | _=>cases h
inductive OT where
 | no
 | s (t:List Nat)
noncomputable def vT (v:V):OT:=V.rec (motive_1:=fun _=>OT) (motive_2:=fun _=>OT) (fun x=>D.rec (motive_1:=fun _=>OT) (motive_2:=fun _=>OT) (fun _=>.no) (fun _ _=>.no) (fun t=>.s t) .no (fun _ _=>.no) (fun _ _=>.no) .no .no .no .no .no (fun _ _ _ _=>.no) x) (fun _=>.no) (fun _=>.no) (fun _ _=>.no) (fun _ _=>.no) (fun _ _=>.no) (fun _=>.no) (fun _ _ _ _=>.no) (fun _ _ _=>.no) (fun _=>.no) (fun _ _ _ _ _=>.no) (fun _ _ _=>.no) (fun _ _=>.no) (fun _ _=>.no) .no .no (fun _ _ _ _=>.no) v
theorem qoG {v:V} {t:List Nat} (h:vT v=.s t):v=.d (.s t):=by
 cases v with
 | d x=>cases x with
  | s u=>have h:OT.s u=.s t:=h;cases h;rfl
  | _=>cases h
 | _=>cases h
inductive OU where
 | no
 | t (vs:List V)
noncomputable def vU (v:V):OU:=V.rec (motive_1:=fun _=>OU) (motive_2:=fun _=>OU) (fun _=>.no) (fun _=>.no) (fun _=>.no) (fun _ _=>.no) (fun _ _=>.no) (fun _ _=>.no) (fun _=>.no) (fun _ _ _ _=>.no) (fun _ _ _=>.no) (fun _=>.no) (fun _ _ _ _ _=>.no) (fun _ _ _=>.no) (fun _ _=>.no) (fun vs _=>.t vs) .no .no (fun _ _ _ _=>.no) v
theorem qN5 {v:V} {vs:List V} (h:vU v=.t vs):v=.tup vs:=by
 cases v with
 | tup ws=>have h:OU.t ws=.t vs:=h;cases h;rfl
 | _=>cases h
inductive OF where
 | no
 | f (i:Nat)
noncomputable def vF (v:V):OF:=V.rec (motive_1:=fun _=>OF) (motive_2:=fun _=>OF) (fun _=>.no) (fun _=>.no) (fun _=>.no) (fun _ _=>.no) (fun _ _=>.no) (fun _ _=>.no) (fun _=>.no) (fun _ _ _ _=>.no) (fun _ _ _=>.no) (fun _=>.no) (fun f a b _ _=>List.rec (motive:=fun _=>OF) (List.rec (motive:=fun _=>OF) (.f f) (fun _ _ _=>.no) b) (fun _ _ _=>.no) a) (fun _ _ _=>.no) (fun _ _=>.no) (fun _ _=>.no) .no .no (fun _ _ _ _=>.no) v
theorem qN7 {v:V} {i:Nat} (h:vF v=.f i):v=.fn i [] []:=by
 cases v with
 | fn f a b=>cases a with
  | nil=>cases b with
   | nil=>have h:OF.f f=.f i:=h;cases h;rfl
   | cons _ _=>cases h
  | cons _ _=>cases h
 | _=>cases h
noncomputable def qE6 (m:Nat) (v:V) (κ:V->R):R:=V.rec (motive_1:=fun _=>R) (motive_2:=fun _=>R) (fun x=>κ (.d x)) (fun xs=>κ (.d (.sl xs))) (fun xs=>κ (.fsl xs)) (fun a b=>κ (.ptr a b)) (fun a b=>κ (.lp a b)) (fun _ _=>κ (.lp m 0)) (fun x=>κ (.cp x)) (fun a b c d=>κ (.rs a b c d)) (fun a b c=>κ (.row a b c)) (fun a=>κ (.map a)) (fun f a b _ _=>κ (.fn f a b)) (fun t x _=>κ (.ifc t x)) (fun cs _=>qdp (qfh (cs.map zy)) κ) (fun vs _=>κ (.tup vs)) (κ .undef) none (fun _ _ _ _=>none) v
theorem qBD (m:Nat) (v:V) (κ:V->R):qE6 m v κ=κ (qgG m v):=by
 cases v with
 | agg cs=>exact qcw _ _
 | _=>rfl
noncomputable def qFe (v:V) (κ:V->R):R:=V.rec (motive_1:=fun _=>R) (motive_2:=fun _=>R) (fun x=>κ (.d x)) (fun xs=>κ (.osl xs)) (fun xs=>κ (.fsl xs)) (fun a b=>κ (.ptr a b)) (fun a b=>κ (.lp a b)) (fun _ _=>κ .undef) (fun x=>κ (.cp x)) (fun a b c d=>κ (.rs a b c d)) (fun a b c=>κ (.row a b c)) (fun a=>κ (.map a)) (fun f a b _ _=>κ (.fn f a b)) (fun t x _=>κ (.ifc t x)) (fun cs _=>κ (.agg cs)) (fun vs _=>κ (.tup vs)) (κ .undef) none (fun _ _ _ _=>none) v
theorem qBm (v:V) (κ:V->R):qFe v κ=κ (qiA v):=by cases v<;>rfl
noncomputable def qAW (v:V) (κ:V->R):R:=V.rec (motive_1:=fun _=>R) (motive_2:=fun _=>R) (fun x=>κ (.d x)) (fun xs=>κ (.osl xs)) (fun xs=>κ (.fsl xs)) (fun a b=>κ (.ptr a b)) (fun _ _=>κ .undef) (fun cs _=>κ (.box cs)) (fun x=>κ (.cp x)) (fun a b c d=>κ (.rs a b c d)) (fun a b c=>κ (.row a b c)) (fun a=>κ (.map a)) (fun f a b _ _=>κ (.fn f a b)) (fun t x _=>κ (.ifc t x)) (fun cs _=>κ (.agg cs)) (fun vs _=>κ (.tup vs)) (κ .undef) none (fun _ _ _ _=>none) v
theorem qCi (v:V) (κ:V->R):qAW v κ=κ (match v with | .lp _ _=>.undef|v=>v):=by cases v<;>rfl
noncomputable def qFb (v:V) (κ:V->R):R:=V.rec (motive_1:=fun _=>R) (motive_2:=fun _=>R) (fun x=>κ (.d x)) (fun xs=>κ (.d (.sl xs))) (fun xs=>κ (.fsl xs)) (fun a b=>κ (.ptr a b)) (fun a b=>κ (.lp a b)) (fun _ _=>none) (fun x=>κ (.cp x)) (fun a b c d=>κ (.rs a b c d)) (fun a b c=>κ (.row a b c)) (fun a=>κ (.map a)) (fun f a b _ _=>κ (.fn f a b)) (fun t x _=>κ (.ifc t x)) (fun cs _=>κ (.agg cs)) (fun vs _=>κ (.tup vs)) (κ .undef) none (fun _ _ _ _=>none) v
theorem qwZ {v:V} {κ:V->R} {x:Ex × St} (h:qFb v κ=some x):(zy v).isBox=false/\κ (zy v)=some x:=by
 cases v<;>first|exact ⟨rfl,h⟩|cases h
theorem qpo (cs:List V):(qfh cs).isBox=false:=by unfold qfh;split<;>rfl
noncomputable def qya (v:V) (κ:V->R):R:=V.rec (motive_1:=fun _=>R) (motive_2:=fun _=>R) (fun x=>κ (.d x)) (fun xs=>κ (.d (.sl xs))) (fun xs=>κ (.fsl xs)) (fun a b=>κ (.ptr a b)) (fun a b=>κ (.lp a b)) (fun _ _=>none) (fun x=>κ (.cp x)) (fun a b c d=>κ (.rs a b c d)) (fun a b c=>κ (.row a b c)) (fun a=>κ (.map a)) (fun f a b _ _=>κ (.fn f a b)) (fun t x _=>κ (.ifc t x)) (fun cs _=>qdp (qfh (cs.map zy)) κ) (fun vs _=>κ (.tup vs)) (κ .undef) none (fun _ _ _ _=>none) v
theorem qno {v:V} {κ:V->R} {x:Ex × St} (h:qya v κ=some x):(copy v).isBox=false/\κ (copy v)=some x:=by
 cases v with
 | agg cs=>
  have h:qdp (qfh (cs.map zy)) κ=some x:=h
  rw [qcw] at h
  exact ⟨qpo _,h⟩
 | box cs=>cases h
 | _=>exact ⟨rfl,h⟩
noncomputable def qkE (v:V) (z:R) (κ:V->R):R:=V.rec (motive_1:=fun _=>R) (motive_2:=fun _=>R) (fun x=>κ (.d x)) (fun xs=>κ (.osl xs)) (fun xs=>κ (.fsl xs)) (fun a b=>κ (.ptr a b)) (fun a b=>κ (.lp a b)) (fun _ _=>z) (fun x=>κ (.cp x)) (fun a b c d=>κ (.rs a b c d)) (fun a b c=>κ (.row a b c)) (fun a=>κ (.map a)) (fun f a b _ _=>κ (.fn f a b)) (fun t x _=>κ (.ifc t x)) (fun cs _=>κ (.agg cs)) (fun vs _=>κ (.tup vs)) (κ .undef) none (fun _ _ _ _=>none) v
noncomputable def qtH (v:V) (z:R) (κ:V->R):R:=V.rec (motive_1:=fun _=>R) (motive_2:=fun _=>R) (fun x=>κ (.d x)) (fun xs=>κ (.osl xs)) (fun xs=>κ (.fsl xs)) (fun a b=>κ (.ptr a b)) (fun _ _=>z) (fun _ _=>z) (fun x=>κ (.cp x)) (fun a b c d=>κ (.rs a b c d)) (fun a b c=>κ (.row a b c)) (fun a=>κ (.map a)) (fun f a b _ _=>κ (.fn f a b)) (fun t x _=>κ (.ifc t x)) (fun cs _=>κ (.agg cs)) (fun vs _=>κ (.tup vs)) (κ .undef) none (fun _ _ _ _=>none) v
theorem qvS {v:V} {κ:V->R} {x:Ex × St} (h:qtH v none κ=some x):v.isBox=false/\(∀m o,v≠.lp m o)/\κ v=some x:=by
 cases v<;>first|exact ⟨rfl,nofun,h⟩|cases h
theorem qlk {v:V} {z:R} {κ:V->R} {x:Ex × St} (h:qkE v z κ=some x):z=some x\/(v.isBox=false/\κ v=some x):=by
 cases v<;>first|exact .inr ⟨rfl,h⟩|exact .inl h
inductive KR where
 | mk (f:Env->(V->R)->R)
noncomputable def KR.run (k:KR):Env->(V->R)->R:=KR.rec (motive:=fun _=>Env->(V->R)->R) (fun f=>f) k
noncomputable def rdC (o:O):KR:=O.rec (motive:=fun _=>KR) (fun n=>.mk fun e κ=>qE6 n (fget n e) κ) (fun x=>.mk fun _ κ=>κ (.d x)) (fun i=>.mk fun _ κ=>κ (.fn i [] [])) (fun n=>.mk fun e κ=>qFe (fget n e) κ) (fun _ x=>.mk fun _ κ=>κ (.cp x)) o
theorem qhk (o:O) (e:Env) (κ:V->R):(rdC o).run e κ=κ (rd e o):=by
 cases o with
 | t n=>exact (qBD n (fget n e) κ).trans (by rw [yG];rfl)
 | mv n=>exact (qBm (fget n e) κ).trans (by rw [yG];rfl)
 | _=>rfl
inductive KE where
 | mk (f:Env->Env)
noncomputable def KE.run (k:KE):Env->Env:=KE.rec (motive:=fun _=>Env->Env) (fun f=>f) k
noncomputable def spC (o:O) (r:KE):KE:=O.rec (motive:=fun _=>KE) (fun _=>r) (fun _=>r) (fun _=>r) (fun n=>.mk fun e=>r.run ((n,.undef)::e)) (fun _ _=>r) o
noncomputable def spL (l:List O):KE:=List.rec (motive:=fun _=>KE) (.mk fun e=>e) (fun o _ ih=>spC o ih) l
theorem qwt (l:List O) (e:Env):(spL l).run e=spentAll l e:=by
 induction l generalizing e with
 | nil=>rfl
 | cons o l ih=>
  show (spC o (spL l)).run e=spentAll l (spent o e)
  cases o<;>first|exact ih _|exact ih e
noncomputable def spO (o:O):KE:=spC o (.mk fun e=>e)
theorem qni (o:O) (e:Env):(spO o).run e=spent o e:=by cases o<;>rfl
inductive KA where
 | mk (f:Env->(List V->R)->R)
noncomputable def KA.run (k:KA):Env->(List V->R)->R:=KA.rec (motive:=fun _=>Env->(List V->R)->R) (fun f=>f) k
noncomputable def qAT (l:List O):KA:=List.rec (motive:=fun _=>KA) (.mk fun _ κ=>κ []) (fun o _ ih=>.mk fun e κ=>(rdC o).run e fun v=>ih.run e fun r=>κ (v::r)) l
theorem qtP (l:List O) (e:Env) (κ:List V->R):(qAT l).run e κ=κ (l.map (rd e)):=by
 induction l generalizing κ with
 | nil=>rfl
 | cons o l ih=>
  show (rdC o).run e (fun v=>(qAT l).run e fun r=>κ (v::r))=_
  rw [qhk,ih];rfl
noncomputable def iadd (a b:Int):Int:=Int.rec (motive:=fun _=>Int) (fun m=>Int.rec (motive:=fun _=>Int) (fun n=>.ofNat (Nat.add m n)) (fun n=>a+b) b) (fun _=>a+b) a
theorem qEa (a b:Int):iadd a b=a+b:=by cases a<;>cases b<;>rfl
noncomputable def imul (a b:Int):Int:=Int.rec (motive:=fun _=>Int) (fun m=>Int.rec (motive:=fun _=>Int) (fun n=>.ofNat (Nat.mul m n)) (fun n=>a * b) b) (fun _=>a * b) a
theorem qEF (a b:Int):imul a b=a * b:=by cases a<;>cases b<;>rfl
noncomputable def isub (a b:Int):Int:=Int.rec (motive:=fun _=>Int) (fun m=>Int.rec (motive:=fun _=>Int) (fun n=>Bool.rec (motive:=fun _=>Int) (a - b) (.ofNat (Nat.sub m n)) (Nat.ble n m)) (fun n=>a - b) b) (fun _=>a - b) a
theorem qEc (a b:Int):isub a b=a - b:=by
 cases a with
 | ofNat m=>cases b with
  | ofNat n=>
   show Bool.rec (motive:=fun _=>Int) (Int.ofNat m - Int.ofNat n) (Int.ofNat (Nat.sub m n)) (Nat.ble n m)=_
   cases h:Nat.ble n m with
   | false=>rfl
   | true=>
    have:=qOH h
    show Int.ofNat (m - n)=Int.ofNat m - Int.ofNat n
    simp only [Int.ofNat_eq_natCast];omega
  | negSucc n=>rfl
 | negSucc m=>rfl
noncomputable def ile (a b:Int):Bool:=Int.rec (motive:=fun _=>Bool) (fun m=>Int.rec (motive:=fun _=>Bool) (fun n=>Nat.ble m n) (fun _=>false) b) (fun m=>Int.rec (motive:=fun _=>Bool) (fun _=>true) (fun n=>Nat.ble n m) b) a
theorem qtt (a b:Int):ile a b=leI a b:=by cases a<;>cases b<;>rfl
noncomputable def ieq (a b:Int):Bool:=Int.rec (motive:=fun _=>Bool) (fun m=>Int.rec (motive:=fun _=>Bool) (fun n=>qOC m n) (fun _=>false) b) (fun m=>Int.rec (motive:=fun _=>Bool) (fun _=>false) (fun n=>qOC m n) b) a
theorem qB5 (a b:Int):ieq a b=eqI a b:=by cases a<;>cases b<;>rfl
noncomputable def kcode (k:IntKind):Nat:=IntKind.rec (motive:=fun _=>Nat) 0 1 2 3 4 5 6 7 k
theorem qu8 (a b:IntKind):qOC (kcode a) (kcode b)=eqK a b:=by cases a<;>cases b<;>rfl
noncomputable def kmax (k:IntKind):Nat:=IntKind.rec (motive:=fun _=>Nat) 127 32767 2147483647 9223372036854775807 255 65535 4294967295 18446744073709551615 k
theorem qEr (k:IntKind):kmax k=qqX k:=by cases k<;>rfl
noncomputable def iwr (k:IntKind) (z:Int):Int:=Int.rec (motive:=fun _=>Int) (fun a=>Bool.rec (motive:=fun _=>Int) (wr k (.ofNat a)) (.ofNat a) (Nat.ble a (kmax k))) (fun a=>wr k (.negSucc a)) z
theorem qGS (k:IntKind) (z:Int):iwr k z=wr k z:=by
 cases z with
 | ofNat a=>
  show Bool.rec (motive:=fun _=>Int) (wr k (.ofNat a)) (.ofNat a) (Nat.ble a (kmax k))=_
  rw [qEr]
  cases h:Nat.ble a (qqX k) with
  | false=>rfl
  | true=>simp only [wr,h,cond_true]
 | negSucc a=>rfl
noncomputable def inot (b:Bool):Bool:=Bool.rec (motive:=fun _=>Bool) true false b
theorem qtU (b:Bool):inot b=!b:=by cases b<;>rfl
def quP (pg:Pg) (r:R) (k:K) (call:Call) (n:Nat) (x:Ex × St):Prop:=(∃s,r=some (.nrm,s)/\k.run call n s.env s.H s.lo=some x)\/(r=some x/\x.1≠.nrm)
def qsx (r:Option Or) (dst:Option Nat) (k:K) (call:Call) (n:Nat) (x:Ex × St):Prop:=
 ∃q,r=some q/\((q.pan=false/\∃st,put dst q.v q.st=st/\k.run call n st.env st.H st.lo=some x)\/(q.pan=true/\x=(.pan q.v,q.st)))
def qP (f:KF) (op:OpK) (dst:Option Nat) (k:K):Prop:=∀{call:Call} {n:Nat} {e:Env} {H:List Obj} {lo:Nat} {x:Ex × St},f call n e H lo=some x->qsx (qa call op ⟨e,H,lo⟩) dst k call n x
noncomputable def qiz (dst:Option Nat) (v:V) (k:K):KF:=fun call n e H lo=>match put dst v ⟨e,H,lo⟩ with|⟨e,H,lo⟩=>k.run call n e H lo
theorem qjY {dst:Option Nat} {v:V} {same:Bool} {k:K} {call:Call} {n:Nat} {e:Env} {H:List Obj} {lo:Nat} {x:Ex × St} (h:qiz dst v k call n e H lo=some x):qsx (some ⟨false,same,v,⟨e,H,lo⟩⟩) dst k call n x:=by
 refine ⟨_,rfl,.inl ⟨rfl,_,rfl,?_⟩⟩
 exact h
theorem qi {d:Nat} {v:V} {same:Bool} {k:K} {call:Call} {n:Nat} {e:Env} {H:List Obj} {lo:Nat} {x:Ex × St} (hv:v.isBox=false) (h:k.run call n ((d,v)::e) H lo=some x):qsx (some ⟨false,same,v,⟨e,H,lo⟩⟩) (some d) k call n x:=by
 refine ⟨_,rfl,.inl ⟨rfl,_,rfl,?_⟩⟩
 cases v<;>first|exact h|cases hv
inductive KS where
 | mk (f:Call->St->Option Or)
noncomputable def KS.run (k:KS):Call->St->Option Or:=KS.rec (motive:=fun _=>Call->St->Option Or) (fun f=>f) k
noncomputable def qI2 (op:OpK):KS:=
 match op with
 | .mov x=>.mk fun _ st=>qIS x st
 | .pick c a b=>.mk fun _ st=>qA1 c a b st
 | .alloc loc zero=>.mk fun _ st=>qe7 loc zero st
 | .box loc x=>.mk fun _ st=>qrP loc x st
 | .build zero parts=>.mk fun _ st=>qcp zero parts st
 | .buildSlice zero len parts=>.mk fun _ st=>qX zero len parts st
 | .load mv sl l a=>.mk fun _ st=>qBv mv sl l a st
 | .loadC l a=>.mk fun _ st=>qfw l a st
 | .store sl l a x=>.mk fun _ st=>yS sl l a x st
 | .nilCheck x=>.mk fun _ st=>qpm x st
 | .bin op kd x y=>.mk fun _ st=>qFO op kd x y st
 | .un op x=>.mk fun _ st=>eUn op x st
 | .conv k x=>.mk fun _ st=>qiR k x st
 | .mkFn f first cap=>.mk fun _ st=>qmC f first cap st
 | .sliceS x lo hi=>.mk fun _ st=>jq x lo hi st
 | .fieldAddr x off l=>.mk fun _ st=>qnf x off l st
 | .field x off l=>.mk fun _ st=>qe3 x off l st
 | .indexAddr x i size arr=>.mk fun _ st=>qm4 x i size arr st
 | .index x i=>.mk fun _ st=>qwM x i st
 | .lookup kk zero m k c=>.mk fun _ st=>zH kk zero m k c st
 | .mapUpdate kk m k x=>.mk fun _ st=>zG kk m k x st
 | .extract x i=>.mk fun _ st=>qrs x i st
 | .bi b args=>.mk fun _ st=>fBi b args st
 | .call f args=>.mk fun call st=>jc call f args st
 | op=>.mk fun call st=>qa call op st
theorem qyf (op:OpK) (call:Call) (st:St):(qI2 op).run call st=qa call op st:=by
 rw [<- qzV]
 cases op<;>rfl
noncomputable def qnE (op:OpK):Bool:=
 match op with
 | .appendR _ _ _ _ | .truncR _ _ | .zerosR _ _ _ _ _ | .buildR _ _ _ _ | .rangeM _ | .mkMap | .mkSlice _ _ _ | .alloc _ _ | .box _ _ | .bytesRow _ | .buildRow _ _ _ | .cvtR _=>true
 | _=>false
noncomputable def qqI {α:Type} (b:Bool) (H:List Obj) (k:List Obj->α):α:=Bool.rec (motive:=fun _=>α) (qAC H k) (qqs H k) b
theorem qsI {α:Type} (b:Bool) (H:List Obj) (k:List Obj->α):qqI b H k=k H:=by cases b;exact qzP _ _;exact qsz _ _
noncomputable def qHR (dst:Option Nat) (op:OpK) (k:K):KF:=fun call n e H lo=>
 match (qI2 op).run call ⟨e,H,lo⟩ with
 | some ⟨pan,same,v,⟨e',H',lo'⟩⟩=>Bool.rec (motive:=fun _=>R)
   (qqw (makes op) v fun v=>Bool.rec (motive:=fun _=>R) (qqI (qnE op) H' fun H'=>ql lo' fun lo'=>qiz dst v k call n e' H' lo') (qiz dst v k call n e' H' lo') same)
   (some (.pan v,⟨e',H',lo'⟩)) pan
 | none=>none
theorem qy7 {dst:Option Nat} {op:OpK} {k:K}:qP (qHR dst op k) op dst k:=by
 intro call n e H lo x h
 unfold qHR at h
 rw [qyf] at h
 split at h
 ·rename_i pan same v e' H' lo' hq
  rw [hq]
  cases pan with
  | false=>
   have h:(qqw (makes op) v fun v=>Bool.rec (motive:=fun _=>R) (qqI (qnE op) H' fun H'=>ql lo' fun lo'=>qiz dst v k call n e' H' lo') (qiz dst v k call n e' H' lo') same)=some x:=h
   rw [qsH] at h
   have h2:qiz dst v k call n e' H' lo'=some x:=by
    cases same with
    | false=>simpa only [qsI,kF] using h
    | true=>exact h
   exact qjY h2
  | true=>
   have h:some (Ex.pan v,(⟨e',H',lo'⟩:St))=some x:=h
   cases h
   exact ⟨_,rfl,.inr ⟨rfl,rfl⟩⟩
 ·cases h
noncomputable def asN (v:V) (z:R) (κ:IntKind->Int->R):R:=OI.rec (motive:=fun _=>R) z κ (vI v)
theorem qbw {v:V} {z:R} {κ:IntKind->Int->R} {x:Ex × St} (h:asN v z κ=some x):z=some x\/∃k n,v=.d (.i k n)/\κ k n=some x:=by
 unfold asN at h
 cases hv:vI v with
 | no=>rw [hv] at h;exact .inl h
 | yes k n=>rw [hv] at h;exact .inr ⟨k,n,qf1 hv,h⟩
noncomputable def qv9 (d:Nat) (f:Int->Int->Bool) (a b:KO) (g k:K):KF:=fun call n e H lo=>
 asN (a.run e) (g.run call n e H lo) fun ka x=>asN (b.run e) none fun kb y=>Bool.rec (motive:=fun _=>R) none (Bool.rec (motive:=fun _=>R) (k.run call n ((d,.d (.b false))::e) H lo) (k.run call n ((d,.d (.b true))::e) H lo) (f x y)) (qOC (kcode ka) (kcode kb))
noncomputable def qAu (d:Nat) (f:Int->Int->Int) (a b:KO) (g k:K):KF:=fun call n e H lo=>
 asN (a.run e) (g.run call n e H lo) fun ka x=>asN (b.run e) none fun kb y=>Bool.rec (motive:=fun _=>R) none (qqi (iwr ka (f x y)) fun z=>k.run call n ((d,.d (.i ka z))::e) H lo) (qOC (kcode ka) (kcode kb))
theorem qos {o:O} {e:Env} {k:IntKind} {n:Int} (h:(kH o).run e=.d (.i k n)):rd e o=.d (.i k n):=by
 rw [ke (by rw [h];trivial),h]
theorem qeN {d:Nat} {f:Int->Int->Bool} {op:BinOp} {x y:O} {g k:K} (hop:qea op=false) (hf:∀kk a b,qjb op kk a b=some (.b (f a b))) (hg:qP g.run (.bin op .num x y) (some d) k):qP (qv9 d f (kH x) (kH y) g k) (.bin op .num x y) (some d) k:=by
 intro call n e H lo z h
 unfold qv9 at h
 rcases qbw h with h|⟨ka,a,ha,h⟩
 ·exact hg h
 rcases qbw h with h|⟨kb,b,hb,h⟩
 ·cases h
 rw [qu8] at h
 cases hk:eqK ka kb with
 | false=>rw [hk] at h;cases h
 | true=>
  rw [hk] at h
  have he:qa call (.bin op .num x y) ⟨e,H,lo⟩=some ⟨false,true,.d (.b (f a b)),⟨e,H,lo⟩⟩:=by
   simp only [qa,qoZ,qos ha,qos hb,qhz,hop,hk,cond_true,cond_false,hf,qOG,ok]
  rw [he]
  cases hz:f a b with
  | false=>rw [hz] at h;exact qi rfl h
  | true=>rw [hz] at h;exact qi rfl h
theorem qo6 {d:Nat} {f:Int->Int->Int} {op:BinOp} {x y:O} {g k:K} (hop:qea op=false) (hf:∀kk a b,qjb op kk a b=some (.i kk (wr kk (f a b)))) (hg:qP g.run (.bin op .num x y) (some d) k):qP (qAu d f (kH x) (kH y) g k) (.bin op .num x y) (some d) k:=by
 intro call n e H lo z h
 unfold qAu at h
 rcases qbw h with h|⟨ka,a,ha,h⟩
 ·exact hg h
 rcases qbw h with h|⟨kb,b,hb,h⟩
 ·cases h
 rw [qu8] at h
 cases hk:eqK ka kb with
 | false=>rw [hk] at h;cases h
 | true=>
  rw [hk] at h
  have h:(qqi (iwr ka (f a b)) fun z=>k.run call n ((d,.d (.i ka z))::e) H lo)=some z:=h
  rw [qoP,qGS] at h
  have he:qa call (.bin op .num x y) ⟨e,H,lo⟩=some ⟨false,true,.d (.i ka (wr ka (f a b))),⟨e,H,lo⟩⟩:=by
   simp only [qa,qoZ,qos ha,qos hb,qhz,hop,hk,cond_true,cond_false,hf,qOG,ok]
  rw [he]
  exact qi rfl h
noncomputable def gK (dst:Option Nat) (op:OpK) (k:K):K:=.mk (qHR dst op k)
theorem qY {dst:Option Nat} {op:OpK} {k:K}:qP (gK dst op k).run op dst k:=qy7
noncomputable def qJn (d:Nat) (op:BinOp) (kd:Kd) (x y:O) (k:K):K:=
 match op,kd with
 | .add,.num=>.mk (qAu d iadd (kH x) (kH y) (gK (some d) (.bin .add .num x y) k) k)
 | .sub,.num=>.mk (qAu d isub (kH x) (kH y) (gK (some d) (.bin .sub .num x y) k) k)
 | .mul,.num=>.mk (qAu d imul (kH x) (kH y) (gK (some d) (.bin .mul .num x y) k) k)
 | .lss,.num=>.mk (qv9 d (fun a b=>inot (ile b a)) (kH x) (kH y) (gK (some d) (.bin .lss .num x y) k) k)
 | .leq,.num=>.mk (qv9 d ile (kH x) (kH y) (gK (some d) (.bin .leq .num x y) k) k)
 | .gtr,.num=>.mk (qv9 d (fun a b=>inot (ile a b)) (kH x) (kH y) (gK (some d) (.bin .gtr .num x y) k) k)
 | .geq,.num=>.mk (qv9 d (fun a b=>ile b a) (kH x) (kH y) (gK (some d) (.bin .geq .num x y) k) k)
 | .eql,.num=>.mk (qv9 d ieq (kH x) (kH y) (gK (some d) (.bin .eql .num x y) k) k)
 | .neq,.num=>.mk (qv9 d (fun a b=>inot (ieq a b)) (kH x) (kH y) (gK (some d) (.bin .neq .num x y) k) k)
 | op,kd=>gK (some d) (.bin op kd x y) k
theorem qAs {d:Nat} {op:BinOp} {kd:Kd} {x y:O} {k:K}:qP (qJn d op kd x y k).run (.bin op kd x y) (some d) k:=by
 unfold qJn
 split
 ·exact qo6 rfl (fun kk a b=>by rw [qEa];rfl) qY
 ·exact qo6 rfl (fun kk a b=>by rw [qEc];rfl) qY
 ·exact qo6 rfl (fun kk a b=>by rw [qEF];rfl) qY
 ·exact qeN rfl (fun kk a b=>by rw [qtU,qtt];rfl) qY
 ·exact qeN rfl (fun kk a b=>by rw [qtt];rfl) qY
 ·exact qeN rfl (fun kk a b=>by rw [qtU,qtt];rfl) qY
 ·exact qeN rfl (fun kk a b=>by rw [qtt];rfl) qY
 ·exact qeN rfl (fun kk a b=>by rw [qB5];rfl) qY
 ·exact qeN rfl (fun kk a b=>by rw [qtU,qB5];rfl) qY
 ·exact qY
theorem qwv (m:Nat) (v:V):(qgG m v).isBox=false:=by
 cases v with
 | agg cs=>exact qpo _
 | _=>rfl
theorem qyX (v:V):(qiA v).isBox=false:=by cases v<;>rfl
theorem qxT (e:Env) (o:O):(rd e o).isBox=false:=by
 cases o with
 | t n=>exact qwv _ _
 | mv n=>exact qyX _
 | _=>rfl
noncomputable def qHp (d:Nat) (x:O) (k:K):KF:=fun call n e H lo=>(rdC x).run e fun v=>k.run call n ((d,v)::(spO x).run e) H lo
theorem qzM {d:Nat} {x:O} {k:K}:qP (qHp d x k) (.mov x) (some d) k:=by
 intro call n e H lo z h
 unfold qHp at h
 rw [qhk,qni] at h
 exact qi (qxT e x) h
noncomputable def asP (v:V) (z:R) (p l:Nat->Nat->R) (c:D->R):R:=OP.rec (motive:=fun _=>R) z p l c (vP v)
theorem qeV {v:V} {z:R} {p l:Nat->Nat->R} {c:D->R} {x:Ex × St} (h:asP v z p l c=some x):z=some x\/(∃a b,v=.ptr a b/\p a b=some x)\/(∃a b,v=.lp a b/\l a b=some x)\/∃y,v=.cp y/\c y=some x:=by
 unfold asP at h
 cases hv:vP v with
 | no=>rw [hv] at h;exact .inl h
 | p a b=>rw [hv] at h;exact .inr (.inl ⟨a,b,qMM hv,h⟩)
 | l a b=>rw [hv] at h;exact .inr (.inr (.inl ⟨a,b,qOv hv,h⟩))
 | c y=>rw [hv] at h;exact .inr (.inr (.inr ⟨y,qOl hv,h⟩))
noncomputable def qo5 (o:Option Obj):Option (List V):=Option.rec (motive:=fun _=>Option (List V)) none (fun ob=>Obj.rec (motive:=fun _=>Option (List V)) (fun cs=>some cs) (fun _=>none) (fun _ _=>none) none (fun _=>none) ob) o
theorem qps {o:Option Obj} {cs:List V} (h:qo5 o=some cs):o=some (.cells cs):=by
 cases o with
 | none=>cases h
 | some ob=>cases ob with
  | cells c=>have h:some c=some cs:=h;cases h;rfl
  | _=>cases h
noncomputable def qwD (o:Option Obj):Option (List V):=Option.rec (motive:=fun _=>Option (List V)) none (fun ob=>Obj.rec (motive:=fun _=>Option (List V)) (fun cs=>some cs) (fun _=>none) (fun _ cs=>some cs) none (fun _=>none) ob) o
theorem qvn {o:Option Obj} {cs:List V} (h:qwD o=some cs):o=some (.cells cs)\/∃l,o=some (.row l cs):=by
 cases o with
 | none=>cases h
 | some ob=>cases ob with
  | cells c=>have h:some c=some cs:=h;cases h;exact .inl rfl
  | row l c=>have h:some c=some cs:=h;cases h;exact .inr ⟨l,rfl⟩
  | _=>cases h
noncomputable def qwj (v:V):Option (List V):=V.rec (motive_1:=fun _=>Option (List V)) (motive_2:=fun _=>Option (List V)) (fun _=>none) (fun _=>none) (fun _=>none) (fun _ _=>none) (fun _ _=>none) (fun cs _=>some cs) (fun _=>none) (fun _ _ _ _=>none) (fun _ _ _=>none) (fun _=>none) (fun _ _ _ _ _=>none) (fun _ _ _=>none) (fun _ _=>none) (fun _ _=>none) none none (fun _ _ _ _=>none) v
theorem qr2 {v:V} {cs:List V} (h:qwj v=some cs):v=.box cs:=by
 cases v with
 | box c=>have h:some c=some cs:=h;cases h;rfl
 | _=>cases h
noncomputable def orN {α:Type} (o:Option α) (κ:α->R):R:=Option.rec (motive:=fun _=>R) none κ o
theorem kN {α:Type} {o:Option α} {κ:α->R} {x:Ex × St} (h:orN o κ=some x):∃a,o=some a/\κ a=some x:=by
 cases o with
 | none=>cases h
 | some a=>exact ⟨a,rfl,h⟩
noncomputable def orZ {α:Type} (o:Option α) (z:R) (κ:α->R):R:=Option.rec (motive:=fun _=>R) z κ o
theorem qnI {α:Type} {o:Option α} {z:R} {κ:α->R} {x:Ex × St} (h:orZ o z κ=some x):z=some x\/∃a,o=some a/\κ a=some x:=by
 cases o with
 | none=>exact .inl h
 | some a=>exact .inr ⟨a,rfl,h⟩
noncomputable def qwh (l:L) (off:Nat) (cs:List V) (κ:V->R):R:=L.rec (motive:=fun _=>R) (fun n agg=>Bool.rec (motive:=fun _=>R) (orN (fnth cs off) fun v=>qFb v κ) (orN (V.part off ⟨n,agg⟩ cs) fun v=>qdp v κ) agg) l
theorem qqB {l:L} {off:Nat} {cs:List V} {κ:V->R} {x:Ex × St} (h:qwh l off cs κ=some x):∃v,V.part off l cs=some v/\v.isBox=false/\κ v=some x:=by
 obtain ⟨n,agg⟩:=l
 cases agg with
 | false=>
  obtain ⟨v,h1,h2⟩:=kN (o:=fnth cs off) h
  rw [zI] at h1
  obtain ⟨h3,h4⟩:=qwZ h2
  exact ⟨_,by simp [V.part,h1],h3,h4⟩
 | true=>
  obtain ⟨v,h1,h2⟩:=kN (o:=V.part off ⟨n,true⟩ cs) h
  rw [qcw] at h2
  refine ⟨v,h1,?_,h2⟩
  simp only [V.part,if_true] at h1
  split at h1
  ·cases h1;exact qpo _
  ·cases h1
noncomputable def isAgg (x:D):Option (List D):=D.rec (motive_1:=fun _=>Option (List D)) (motive_2:=fun _=>Option (List D)) (fun _=>none) (fun _ _=>none) (fun _=>none) none (fun _ _=>none) (fun cs _=>some cs) none none none none none (fun _ _ _ _=>none) x
noncomputable def qsS (l:L) (x:D) (κ:V->R):R:=L.rec (motive:=fun _=>R) (fun n agg=>Option.rec (motive:=fun _=>R) (Bool.rec (motive:=fun _=>R) (κ (.d x)) none agg) (fun cs=>Bool.rec (motive:=fun _=>R) none (Bool.rec (motive:=fun _=>R) none (κ (.d x)) (qOC (z0 cs) n)) agg) (isAgg x)) l
theorem qpx {l:L} {x:D} {κ:V->R} {y:Ex × St} {st:St} (h:qsS l x κ=some y):qF l st (.cp x)=some (.d x)/\κ (.d x)=some y:=by
 obtain ⟨n,agg⟩:=l
 cases x with
 | agg cs=>
  cases agg with
  | false=>cases h
  | true=>
   have h:Bool.rec (motive:=fun _=>R) none (κ (.d (.agg cs))) (qOC (z0 cs) n)=some y:=h
   cases hb:qOC (z0 cs) n with
   | false=>rw [hb] at h;cases h
   | true=>
    rw [hb] at h
    have:=qOz hb
    rw [kc] at this
    exact ⟨by simp [qF,this],h⟩
 | _=>
  cases agg with
  | false=>exact ⟨rfl,h⟩
  | true=>cases h
noncomputable def qEZ (d:Nat) (sl:Option Nat) (l:L) (a:O) (g k:K):KF:=
 Option.rec (motive:=fun _=>KF)
  (fun call n e H lo=>asP ((kH a).run e) (g.run call n e H lo) (fun id off=>orZ (qwD (fnth H id)) (g.run call n e H lo) fun cs=>qwh l off cs fun v=>k.run call n ((d,v)::e) H lo) (fun _ _=>none) (fun x=>qsS l x fun v=>k.run call n ((d,v)::e) H lo))
  (fun s0 call n e H lo=>asP ((kH a).run e) (g.run call n e H lo) (fun _ _=>none) (fun s off=>Bool.rec (motive:=fun _=>R) none (orN (qwj (fget s e)) fun cs=>qwh l off cs fun v=>k.run call n ((d,v)::e) H lo) (qOC s0 s)) (fun _=>none)) sl
theorem qxo {d:Nat} {sl:Option Nat} {l:L} {a:O} {g k:K} (hg:qP g.run (.load false sl l a) (some d) k):qP (qEZ d sl l a g k) (.load false sl l a) (some d) k:=by
 intro call n e H lo z h
 cases sl with
 | none=>
  have h:(asP ((kH a).run e) (g.run call n e H lo) (fun id off=>orZ (qwD (fnth H id)) (g.run call n e H lo) fun cs=>qwh l off cs fun v=>k.run call n ((d,v)::e) H lo) (fun _ _=>none) (fun x=>qsS l x fun v=>k.run call n ((d,v)::e) H lo))=some z:=h
  rcases qeV h with h|⟨id,off,ha,h⟩|⟨_,_,_,h⟩|⟨y,ha,h⟩
  ·exact hg h
  ·rcases qnI h with h|⟨cs,hc,h⟩
   ·exact hg h
   obtain ⟨v,hv,hb,h⟩:=qqB h
   have ha':rd e a=.ptr id off:=by rw [ke (by rw [ha];trivial),ha]
   have he:qa call (.load false none l a) ⟨e,H,lo⟩=some ⟨false,true,v,⟨e,H,lo⟩⟩:=by
    rcases qvn hc with hc|⟨l',hc⟩<;>
    ·rw [zI] at hc
     simp only [qa,zB,ha',qE,qF,hc,hv,Bool.not_true,cond_false,ok]
   rw [he];exact qi hb h
  ·cases h
  ·obtain ⟨h1,h2⟩:=qpx (st:=⟨e,H,lo⟩) h
   have ha':rd e a=.cp y:=by rw [ke (by rw [ha];trivial),ha]
   have he:qa call (.load false none l a) ⟨e,H,lo⟩=some ⟨false,true,.d y,⟨e,H,lo⟩⟩:=by
    simp only [qa,zB,ha',qE,h1,Bool.not_true,cond_false,ok]
   rw [he];exact qi rfl h2
 | some s0=>
  have h:(asP ((kH a).run e) (g.run call n e H lo) (fun _ _=>none) (fun s off=>Bool.rec (motive:=fun _=>R) none (orN (qwj (fget s e)) fun cs=>qwh l off cs fun v=>k.run call n ((d,v)::e) H lo) (qOC s0 s)) (fun _=>none))=some z:=h
  rcases qeV h with h|⟨_,_,_,h⟩|⟨s,off,ha,h⟩|⟨_,_,h⟩
  ·exact hg h
  ·cases h
  ·cases hb:qOC s0 s with
   | false=>rw [hb] at h;cases h
   | true=>
    rw [hb] at h
    obtain ⟨cs,hc,h⟩:=kN (o:=qwj (fget s e)) h
    obtain ⟨v,hv,hbx,h⟩:=qqB h
    have hc:=qr2 hc
    rw [yG] at hc
    have ha':rd e a=.lp s off:=by rw [ke (by rw [ha];trivial),ha]
    have he:qa call (.load false (some s0) l a) ⟨e,H,lo⟩=some ⟨false,true,v,⟨e,H,lo⟩⟩:=by
     simp only [qa,zB,ha',qE,qF,hc,hv,hb,Bool.not_true,cond_false,ok]
    rw [he];exact qi hbx h
  ·cases h
noncomputable def qwW (d:Nat) (l:L) (a:O) (k:K):KF:=fun call n e H lo=>asP ((kH a).run e) none (fun _ _=>none) (fun _ _=>none) (fun x=>qsS l x fun v=>k.run call n ((d,v)::e) H lo)
theorem qwk {d:Nat} {l:L} {a:O} {k:K}:qP (qwW d l a k) (.loadC l a) (some d) k:=by
 intro call n e H lo z h
 unfold qwW at h
 rcases qeV h with h|⟨_,_,_,h⟩|⟨_,_,_,h⟩|⟨y,ha,h⟩
 ·cases h
 ·cases h
 ·cases h
 ·obtain ⟨h1,h2⟩:=qpx (st:=⟨e,H,lo⟩) h
  have ha':rd e a=.cp y:=by rw [ke (by rw [ha];trivial),ha]
  have he:qa call (.loadC l a) ⟨e,H,lo⟩=some ⟨false,true,.d y,⟨e,H,lo⟩⟩:=by
   simp only [qa,qfw,ha',h1,ok]
  rw [he];exact qi rfl h2
noncomputable def qF3 (d:Nat) (a:O) (g k:K):KF:=fun call n e H lo=>
 asP ((kH a).run e) (g.run call n e H lo) (fun id off=>k.run call n ((d,.ptr id off)::e) H lo) (fun s off=>k.run call n ((d,.lp s off)::e) H lo) (fun x=>k.run call n ((d,.cp x)::e) H lo)
theorem qzn {d:Nat} {a:O} {g k:K} (hg:qP g.run (.nilCheck a) (some d) k):qP (qF3 d a g k) (.nilCheck a) (some d) k:=by
 intro call n e H lo z h
 unfold qF3 at h
 rcases qeV h with h|⟨id,off,ha,h⟩|⟨s,off,ha,h⟩|⟨y,ha,h⟩
 ·exact hg h
 ·have ha':rd e a=.ptr id off:=(ke (by rw [ha];trivial)).trans ha
  rw [show qa call (.nilCheck a) ⟨e,H,lo⟩=some ⟨false,true,.ptr id off,⟨e,H,lo⟩⟩ by simp only [qa,kS,ha',ok]]
  exact qi rfl h
 ·have ha':rd e a=.lp s off:=(ke (by rw [ha];trivial)).trans ha
  rw [show qa call (.nilCheck a) ⟨e,H,lo⟩=some ⟨false,true,.lp s off,⟨e,H,lo⟩⟩ by simp only [qa,kS,ha',ok]]
  exact qi rfl h
 ·have ha':rd e a=.cp y:=(ke (by rw [ha];trivial)).trans ha
  rw [show qa call (.nilCheck a) ⟨e,H,lo⟩=some ⟨false,true,.cp y,⟨e,H,lo⟩⟩ by simp only [qa,kS,ha',ok]]
  exact qi rfl h
noncomputable def qI1 (d:Nat) (a:O) (o:Nat) (l:L) (g k:K):KF:=fun call n e H lo=>
 asP ((kH a).run e) (g.run call n e H lo) (fun id off=>ql (Nat.add off o) fun off=>k.run call n ((d,.ptr id off)::e) H lo) (fun s off=>ql (Nat.add off o) fun off=>k.run call n ((d,.lp s off)::e) H lo) (fun _=>g.run call n e H lo)
theorem qip {a:Nat} {κ:Nat->R}:ql a κ=κ a:=kF a κ
theorem qzW {d:Nat} {a:O} {o:Nat} {l:L} {g k:K} (hg:qP g.run (.fieldAddr a o l) (some d) k):qP (qI1 d a o l g k) (.fieldAddr a o l) (some d) k:=by
 intro call n e H lo z h
 unfold qI1 at h
 rcases qeV h with h|⟨id,off,ha,h⟩|⟨s,off,ha,h⟩|⟨y,ha,h⟩
 ·exact hg h
 ·rw [qip] at h
  have ha':rd e a=.ptr id off:=(ke (by rw [ha];trivial)).trans ha
  have he:qa call (.fieldAddr a o l) ⟨e,H,lo⟩=some ⟨false,true,.ptr id (off+o),⟨e,H,lo⟩⟩:=by
   simp only [qa,qU,ha',ok]
  rw [he];exact qi rfl h
 ·rw [qip] at h
  have ha':rd e a=.lp s off:=(ke (by rw [ha];trivial)).trans ha
  have he:qa call (.fieldAddr a o l) ⟨e,H,lo⟩=some ⟨false,true,.lp s (off+o),⟨e,H,lo⟩⟩:=by
   simp only [qa,qU,ha',ok]
  rw [he];exact qi rfl h
 ·exact hg h
noncomputable def qr1 (z:Int) (κ:Nat->R):R:=Int.rec (motive:=fun _=>R) κ (fun _=>none) z
theorem qe5 {z:Int} {κ:Nat->R} {x:Ex × St} (h:qr1 z κ=some x):∃m:Nat,z=.ofNat m/\κ m=some x:=by
 cases z with
 | ofNat m=>exact ⟨m,rfl,h⟩
 | negSucc m=>cases h
noncomputable def szD (y:D):Nat:=D.rec (motive_1:=fun _=>Nat) (motive_2:=fun _=>Nat) (fun _=>1) (fun _ _=>1) (fun _=>1) 1 (fun _ _=>1) (fun cs _=>z0 cs) 1 1 1 1 1 (fun _ _ _ _=>1) y
theorem qtX (y:D):szD y=y.cells.length:=by
 cases y with
 | agg cs=>exact kc cs
 | _=>rfl
noncomputable def asL (v:V) (z nl:R) (κ:List D->R):R:=OL.rec (motive:=fun _=>R) z nl κ (vL v)
theorem qrc {v:V} {z nl:R} {κ:List D->R} {x:Ex × St} (h:asL v z nl κ=some x):z=some x\/(v=.d .nil/\nl=some x)\/∃xs,v=.d (.sl xs)/\κ xs=some x:=by
 unfold asL at h
 cases hv:vL v with
 | no=>rw [hv] at h;exact .inl h
 | nil=>rw [hv] at h;exact .inr (.inl ⟨qIa hv,h⟩)
 | sl xs=>rw [hv] at h;exact .inr (.inr ⟨xs,qAA hv,h⟩)
noncomputable def asT (v:V) (z:R) (κ:List Nat->R):R:=OT.rec (motive:=fun _=>R) z κ (vT v)
theorem qnS {v:V} {z:R} {κ:List Nat->R} {x:Ex × St} (h:asT v z κ=some x):z=some x\/∃t,v=.d (.s t)/\κ t=some x:=by
 unfold asT at h
 cases hv:vT v with
 | no=>rw [hv] at h;exact .inl h
 | s t=>rw [hv] at h;exact .inr ⟨t,qoG hv,h⟩
noncomputable def qHo (d:Nat) (x i:O) (size:Nat) (g k:K):KF:=fun call n e H lo=>
 asL ((kH x).run e) (g.run call n e H lo) none fun xs=>asN ((kH i).run e) none fun _ z=>qr1 z fun m=>orN (fnth xs m) fun y=>Bool.rec (motive:=fun _=>R) none (k.run call n ((d,.cp y)::e) H lo) (qOC (szD y) size)
theorem qzf {d:Nat} {x i:O} {size:Nat} {g k:K} (hg:qP g.run (.indexAddr x i size none) (some d) k):qP (qHo d x i size g k) (.indexAddr x i size none) (some d) k:=by
 intro call n e H lo z h
 unfold qHo at h
 rcases qrc h with h|⟨_,h⟩|⟨xs,hx,h⟩
 ·exact hg h
 ·cases h
 rcases qbw h with h|⟨kk,w,hi,h⟩
 ·cases h
 obtain ⟨m,rfl,h⟩:=qe5 h
 obtain ⟨y,hy,h⟩:=kN h
 rw [zI] at hy
 rw [qtX] at h
 cases hb:qOC y.cells.length size with
 | false=>rw [hb] at h;cases h
 | true=>
  rw [hb] at h
  have hx':rd e x=.d (.sl xs):=(ke (by rw [hx];trivial)).trans hx
  have hl:leI 0 (Int.ofNat m)=true:=by show Nat.ble 0 m=true;exact Nat.ble_eq_true_of_le (Nat.zero_le m)
  have ht:(Int.ofNat m).toNat=m:=rfl
  have he:qa call (.indexAddr x i size none) ⟨e,H,lo⟩=some ⟨false,true,.cp y,⟨e,H,lo⟩⟩:=by
   simp only [qa,qV,zM,hx',qos hi,hl,ht,hy,hb,cond_true,ok]
  rw [he];exact qi rfl h
noncomputable def qIL (d:Nat) (x i:O) (k:K):KF:=fun call n e H lo=>
 asT ((kH x).run e) none fun t=>asN ((kH i).run e) none fun _ z=>qr1 z fun m=>orN (fnth t m) fun y=>k.run call n ((d,.d (.i .u8 (.ofNat y)))::e) H lo
theorem qzE {d:Nat} {x i:O} {k:K}:qP (qIL d x i k) (.index x i) (some d) k:=by
 intro call n e H lo z h
 unfold qIL at h
 rcases qnS h with h|⟨t,hx,h⟩
 ·cases h
 rcases qbw h with h|⟨kk,w,hi,h⟩
 ·cases h
 obtain ⟨m,rfl,h⟩:=qe5 h
 obtain ⟨y,hy,h⟩:=kN h
 rw [zI] at hy
 have hx':rd e x=.d (.s t):=(ke (by rw [hx];trivial)).trans hx
 have hl:leI 0 (Int.ofNat m)=true:=by show Nat.ble 0 m=true;exact Nat.ble_eq_true_of_le (Nat.zero_le m)
 have ht:(Int.ofNat m).toNat=m:=rfl
 have he:qa call (.index x i) ⟨e,H,lo⟩=some ⟨false,true,.d (.i .u8 (.ofNat y)),⟨e,H,lo⟩⟩:=by
  simp only [qa,qe9,hx',qos hi,hl,ht,hy,cond_true,ok];rfl
 rw [he];exact qi rfl h
noncomputable def asU (v:V) (κ:List V->R):R:=OU.rec (motive:=fun _=>R) none κ (vU v)
theorem qCr {v:V} {κ:List V->R} {x:Ex × St} (h:asU v κ=some x):∃vs,v=.tup vs/\κ vs=some x:=by
 unfold asU at h
 cases hv:vU v with
 | no=>rw [hv] at h;cases h
 | t vs=>rw [hv] at h;exact ⟨vs,qN5 hv,h⟩
noncomputable def qI8 (d m i:Nat) (k:K):KF:=fun call n e H lo=>
 asU (fget m e) fun vs=>orN (fnth vs i) fun v=>qya v fun v=>k.run call n ((d,v)::e) H lo
theorem qAd {d m i:Nat} {k:K}:qP (qI8 d m i k) (.extract (.t m) i) (some d) k:=by
 intro call n e H lo z h
 unfold qI8 at h
 obtain ⟨vs,hv,h⟩:=qCr h
 obtain ⟨v,hn,h⟩:=kN h
 obtain ⟨hb,h⟩:=qno h
 rw [yG] at hv
 rw [zI] at hn
 have he:qa call (.extract (.t m) i) ⟨e,H,lo⟩=some ⟨false,true,copy v,⟨e,H,lo⟩⟩:=by
  simp only [qa,yi,hv,hn,ok]
 rw [he];exact qi hb h
noncomputable def qAM (d:Nat) (x:O) (k:K):KF:=fun call n e H lo=>
 asT ((kH x).run e) none fun t=>ql (z0 t) fun m=>k.run call n ((d,.d (.i .i64 (.ofNat m)))::e) H lo
theorem qxG {d:Nat} {x:O} {k:K}:qP (qAM d x k) (.bi .lenS [x]) (some d) k:=by
 intro call n e H lo z h
 unfold qAM at h
 rcases qnS h with h|⟨t,hx,h⟩
 ·cases h
 rw [qip,kc] at h
 have hx':rd e x=.d (.s t):=(ke (by rw [hx];trivial)).trans hx
 have he:qa call (.bi .lenS [x]) ⟨e,H,lo⟩=some ⟨false,true,.d (.i .i64 (.ofNat t.length)),⟨e,H,lo⟩⟩:=by
  simp only [qa,eBi,qkb,hx',ok];rfl
 rw [he];exact qi rfl h
noncomputable def qBZ (d:Nat) (x:O) (g k:K):KF:=fun call n e H lo=>
 asL ((kH x).run e) (g.run call n e H lo) (k.run call n ((d,.d (.i .i64 (.ofNat 0)))::e) H lo) fun xs=>ql (z0 xs) fun m=>k.run call n ((d,.d (.i .i64 (.ofNat m)))::e) H lo
theorem qwx {d:Nat} {x:O} {g k:K} (hg:qP g.run (.bi .lenL [x]) (some d) k):qP (qBZ d x g k) (.bi .lenL [x]) (some d) k:=by
 intro call n e H lo z h
 unfold qBZ at h
 rcases qrc h with h|⟨hx,h⟩|⟨xs,hx,h⟩
 ·exact hg h
 ·have hx':rd e x=.d .nil:=(ke (by rw [hx];trivial)).trans hx
  have he:qa call (.bi .lenL [x]) ⟨e,H,lo⟩=some ⟨false,true,.d (.i .i64 (.ofNat 0)),⟨e,H,lo⟩⟩:=by
   simp only [qa,eBi,qcZ,qDi,hx',ok];rfl
  rw [he];exact qi rfl h
 ·rw [qip,kc] at h
  have hx':rd e x=.d (.sl xs):=(ke (by rw [hx];trivial)).trans hx
  have he:qa call (.bi .lenL [x]) ⟨e,H,lo⟩=some ⟨false,true,.d (.i .i64 (.ofNat xs.length)),⟨e,H,lo⟩⟩:=by
   simp only [qa,eBi,qcZ,qDi,hx',ok];rfl
  rw [he];exact qi rfl h
noncomputable def asB (v:V) (a b:R):R:=OB.rec (motive:=fun _=>R) none b a (vB v)
theorem qq0 {v:V} {a b:R} {x:Ex × St} (h:asB v a b=some x):(v=.d (.b true)/\a=some x)\/(v=.d (.b false)/\b=some x):=by
 unfold asB at h
 cases hv:vB v with
 | no=>rw [hv] at h;cases h
 | t=>rw [hv] at h;exact .inl ⟨qOn hv,h⟩
 | f=>rw [hv] at h;exact .inr ⟨qNV hv,h⟩
noncomputable def qKH (d:Nat) (x:O) (k:K):KF:=fun call n e H lo=>
 asB ((kH x).run e) (k.run call n ((d,.d (.b false))::e) H lo) (k.run call n ((d,.d (.b true))::e) H lo)
theorem qzk {d:Nat} {x:O} {k:K}:qP (qKH d x k) (.un .not x) (some d) k:=by
 intro call n e H lo z h
 unfold qKH at h
 rcases qq0 h with ⟨hx,h⟩|⟨hx,h⟩
 ·have hx':rd e x=.d (.b true):=(ke (by rw [hx];trivial)).trans hx
  rw [show qa call (.un .not x) ⟨e,H,lo⟩=some ⟨false,true,.d (.b false),⟨e,H,lo⟩⟩ by simp only [qa,eUn,hx',unD,ok];rfl]
  exact qi rfl h
 ·have hx':rd e x=.d (.b false):=(ke (by rw [hx];trivial)).trans hx
  rw [show qa call (.un .not x) ⟨e,H,lo⟩=some ⟨false,true,.d (.b true),⟨e,H,lo⟩⟩ by simp only [qa,eUn,hx',unD,ok];rfl]
  exact qi rfl h
noncomputable def qxt (v:V):Bool:=V.rec (motive_1:=fun _=>Bool) (motive_2:=fun _=>Bool) (fun x=>D.rec (motive_1:=fun _=>Bool) (motive_2:=fun _=>Bool) (fun _=>true) (fun _ _=>true) (fun _=>true) true (fun _ _=>true) (fun _ _=>false) true true true true true (fun _ _ _ _=>true) x) (fun _=>true) (fun _=>true) (fun _ _=>true) (fun _ _=>false) (fun _ _=>false) (fun _=>false) (fun _ _ _ _=>true) (fun _ _ _=>true) (fun _=>true) (fun _ _ _ _ _=>false) (fun _ _ _=>false) (fun _ _=>false) (fun _ _=>false) false false (fun _ _ _ _=>false) v
theorem qys {v:V} (h:qxt v=true):v.cells=[v]/\V.ones [v]=true:=by
 cases v with
 | d x=>cases x<;>first|exact ⟨rfl,rfl⟩|cases h
 | _=>first|exact ⟨rfl,rfl⟩|cases h
noncomputable def quC (v:V) (cs:List V):Nat->(List V->R)->R:=
 List.rec (motive:=fun _=>Nat->(List V->R)->R) (fun _ _=>none) (fun c t ih off κ=>Nat.rec (motive:=fun _=>R) (κ (v::t)) (fun m _=>ih m fun t'=>κ (c::t')) off) cs
theorem qlU {v:V}:∀{cs:List V} {off:Nat} {κ:List V->R} {x:Ex × St},quC v cs off κ=some x->∃cs',kr cs off [v]=some cs'/\κ cs'=some x
 | [],off,κ,x,h=>by cases h
 | c::t,0,κ,x,h=>⟨v::t,by simp [kr],h⟩
 | c::t,m+1,κ,x,h=>by
  have h:quC v t m (fun t'=>κ (c::t'))=some x:=h
  obtain ⟨cs',h1,h2⟩:=qlU h
  refine ⟨c::cs',?_,h2⟩
  simp only [kr,List.length_cons,List.length_nil] at h1 |-
  split at h1
  ·rename_i hl
   cases h1
   rw [if_pos (by omega)]
   simp [Nat.add_right_comm]
  ·cases h1
noncomputable def qms (o:Obj) (H:List Obj):Nat->(List Obj->R)->R:=
 List.rec (motive:=fun _=>Nat->(List Obj->R)->R) (fun _ _=>none) (fun c t ih off κ=>Nat.rec (motive:=fun _=>R) (κ (o::t)) (fun m _=>ih m fun t'=>κ (c::t')) off) H
theorem qci {o:Obj}:∀{H:List Obj} {id:Nat} {κ:List Obj->R} {x:Ex × St},qms o H id κ=some x->κ (qQ H id o)=some x
 | [],off,κ,x,h=>by cases h
 | c::t,0,κ,x,h=>h
 | c::t,m+1,κ,x,h=>by
  have h:qms o t m (fun t'=>κ (c::t'))=some x:=h
  exact qci (H:=t) (id:=m) (κ:=fun t'=>κ (c::t')) h
noncomputable def ql7 (a b:Nat) (κ:Nat->R):R:=Bool.rec (motive:=fun _=>R) (κ b) (κ a) (Nat.ble a b)
theorem qgI (a b:Nat) (κ:Nat->R):ql7 a b κ=κ (min a b):=by
 unfold ql7
 cases h:Nat.ble a b with
 | true=>rw [Nat.min_eq_left (qOH h)]
 | false=>
  have:¬a<=b:=fun hc=>by rw [Nat.ble_eq_true_of_le hc] at h;cases h
  rw [Nat.min_eq_right (by omega)]
noncomputable def qA2 (g k:K) (v:V) (id off:Nat) (call:Call) (n:Nat) (e:Env) (H:List Obj) (lo:Nat) (e':Env):R:=
 match fnth H id with
 | some (.row l cs)=>Bool.rec (motive:=fun _=>R) (g.run call n e H lo) (quC v cs off fun cs=>qms (.row l cs) H id fun H=>ql7 lo id fun lo=>k.run call n e' H lo) v.ok
 | _=>g.run call n e H lo
noncomputable def qLx (sl:Option Nat) (a x:O) (g k:K):KF:=
 Option.rec (motive:=fun _=>KF)
  (fun call n e H lo=>asP ((kH a).run e) (g.run call n e H lo) (fun id off=>(rdC x).run e fun v=>Bool.rec (motive:=fun _=>R) (g.run call n e H lo) (orZ (qo5 (fnth H id)) (qA2 g k v id off call n e H lo ((spO x).run e)) fun cs=>quC v cs off fun cs=>qms (.cells cs) H id fun H=>ql7 lo id fun lo=>k.run call n ((spO x).run e) H lo) (qxt v)) (fun _ _=>none) (fun _=>none))
  (fun s0 call n e H lo=>asP ((kH a).run e) (g.run call n e H lo) (fun _ _=>none) (fun s off=>(rdC x).run e fun v=>Bool.rec (motive:=fun _=>R) (g.run call n e H lo) (Bool.rec (motive:=fun _=>R) none (orN (qwj (fget s ((spO x).run e))) fun cs=>quC v cs off fun cs=>k.run call n ((s,.box cs)::(spO x).run e) H lo) (qOC s0 s)) (qxt v)) (fun _=>none)) sl
theorem qAn {sl:Option Nat} {a x:O} {g k:K} (hg:qP g.run (.store sl ⟨1,false⟩ a x) none k):qP (qLx sl a x g k) (.store sl ⟨1,false⟩ a x) none k:=by
 intro call n e H lo z h
 cases sl with
 | none=>
  have h:(asP ((kH a).run e) (g.run call n e H lo) (fun id off=>(rdC x).run e fun v=>Bool.rec (motive:=fun _=>R) (g.run call n e H lo) (orZ (qo5 (fnth H id)) (qA2 g k v id off call n e H lo ((spO x).run e)) fun cs=>quC v cs off fun cs=>qms (.cells cs) H id fun H=>ql7 lo id fun lo=>k.run call n ((spO x).run e) H lo) (qxt v)) (fun _ _=>none) (fun _=>none))=some z:=h
  rcases qeV h with h|⟨id,off,ha,h⟩|⟨_,_,_,h⟩|⟨y,ha,h⟩
  ·exact hg h
  ·rw [qhk] at h
   cases ho:qxt (rd e x) with
   | false=>rw [ho] at h;exact hg h
   | true=>
    rw [ho] at h
    obtain ⟨h1,h2⟩:=qys ho
    rcases qnI (o:=qo5 (fnth H id)) h with h|⟨cs,hc,h⟩
    ·unfold qA2 at h
     rw [zI] at h
     split at h
     ·rename_i l' cs hob
      cases hok:(rd e x).ok with
      | false=>rw [hok] at h;exact hg h
      | true=>
       rw [hok] at h
       obtain ⟨cs',hs,h⟩:=qlU h
       have h:=qci h
       rw [qgI,qni] at h
       have ha':rd e a=.ptr id off:=(ke (by rw [ha];trivial)).trans ha
       have he:qa call (.store none ⟨1,false⟩ a x) ⟨e,H,lo⟩=some ⟨false,false,.undef,⟨spent x e,qQ H id (.row l' cs'),min lo id⟩⟩:=by
        simp only [qa,yS,ha',qE,yy,hob,h1,h2,hs,hok,V.ok.oks,Bool.not_true,cond_false,okH,List.length_cons,List.length_nil,Nat.zero_add,decide_true,Bool.and_self,if_true]
       rw [he]
       exact ⟨_,rfl,.inl ⟨rfl,_,rfl,h⟩⟩
     ·exact hg h
    obtain ⟨cs',hs,h⟩:=qlU h
    have h:=qci h
    rw [qgI,qni] at h
    have hc:=qps hc
    rw [zI] at hc
    have ha':rd e a=.ptr id off:=(ke (by rw [ha];trivial)).trans ha
    have he:qa call (.store none ⟨1,false⟩ a x) ⟨e,H,lo⟩=some ⟨false,false,.undef,⟨spent x e,qQ H id (.cells cs'),min lo id⟩⟩:=by
     simp only [qa,yS,ha',qE,yy,hc,h1,h2,hs,Bool.not_true,cond_false,okH,List.length_cons,List.length_nil,Nat.zero_add,decide_true,Bool.and_self,if_true]
    rw [he]
    exact ⟨_,rfl,.inl ⟨rfl,_,rfl,h⟩⟩
  ·cases h
  ·cases h
 | some s0=>
  have h:(asP ((kH a).run e) (g.run call n e H lo) (fun _ _=>none) (fun s off=>(rdC x).run e fun v=>Bool.rec (motive:=fun _=>R) (g.run call n e H lo) (Bool.rec (motive:=fun _=>R) none (orN (qwj (fget s ((spO x).run e))) fun cs=>quC v cs off fun cs=>k.run call n ((s,.box cs)::(spO x).run e) H lo) (qOC s0 s)) (qxt v)) (fun _=>none))=some z:=h
  rcases qeV h with h|⟨_,_,_,h⟩|⟨s,off,ha,h⟩|⟨_,_,h⟩
  ·exact hg h
  ·cases h
  ·rw [qhk] at h
   cases ho:qxt (rd e x) with
   | false=>rw [ho] at h;exact hg h
   | true=>
    rw [ho] at h
    obtain ⟨h1,h2⟩:=qys ho
    have h:Bool.rec (motive:=fun _=>R) none (orN (qwj (fget s ((spO x).run e))) fun cs=>quC (rd e x) cs off fun cs=>k.run call n ((s,.box cs)::(spO x).run e) H lo) (qOC s0 s)=some z:=h
    cases hb:qOC s0 s with
    | false=>rw [hb] at h;cases h
    | true=>
     rw [hb] at h
     obtain ⟨cs,hc,h⟩:=kN (o:=qwj (fget s ((spO x).run e))) h
     obtain ⟨cs',hs,h⟩:=qlU h
     have hc:=qr2 hc
     rw [yG,qni] at hc
     rw [qni] at h
     have ha':rd e a=.lp s off:=(ke (by rw [ha];trivial)).trans ha
     have he:qa call (.store (some s0) ⟨1,false⟩ a x) ⟨e,H,lo⟩=some ⟨false,true,.undef,⟨(s,.box cs')::spent x e,H,lo⟩⟩:=by
      simp only [qa,yS,ha',qE,yy,hb,hc,h1,h2,hs,Bool.not_true,cond_false,ok,List.length_cons,List.length_nil,Nat.zero_add,decide_true,Bool.and_self,if_true]
     rw [he]
     exact ⟨_,rfl,.inl ⟨rfl,_,rfl,h⟩⟩
  ·cases h
noncomputable def qAV {α:Type} (o:α) (l:List α):(List α->R)->R:=List.rec (motive:=fun _=>(List α->R)->R) (fun κ=>κ [o]) (fun x _ ih κ=>ih fun r=>κ (x::r)) l
theorem qun {α:Type} (o:α) (l:List α) (κ:List α->R):qAV o l κ=κ (l++[o]):=by
 induction l generalizing κ with
 | nil=>rfl
 | cons x l ih=>exact ih _
noncomputable def qIN (d:Nat) (zero:List D) (k:K):KF:=fun call n e H lo=>
 zV (fun v κ=>κ v) (zero.map V.d) fun cs=>ql (z0 H) fun m=>qAV (.cells cs) H fun H=>k.run call n ((d,.ptr m 0)::e) H lo
theorem qy1 {d:Nat} {zero:List D} {k:K}:qP (qIN d zero k) (.alloc false zero) (some d) k:=by
 intro call n e H lo z h
 unfold qIN at h
 rw [kn (fun v κ=>rfl),qip,kc,qun] at h
 exact qi (same:=false) rfl h
noncomputable def qLi (d:Nat) (k:K):KF:=fun call n e H lo=>ql (z0 H) fun m=>qAV (.map []) H fun H=>k.run call n ((d,.map m)::e) H lo
theorem qzp {d:Nat} {k:K}:qP (qLi d k) .mkMap (some d) k:=by
 intro call n e H lo z h
 unfold qLi at h
 rw [qip,kc,qun] at h
 exact qi (same:=false) rfl h
noncomputable def qo1 (a:List Nat):List Nat->Bool:=List.rec (motive:=fun _=>List Nat->Bool) (fun b=>List.rec (motive:=fun _=>Bool) true (fun _ _ _=>false) b) (fun x _ ih b=>List.rec (motive:=fun _=>Bool) false (fun y t _=>Bool.rec (motive:=fun _=>Bool) false (ih t) (qOC x y)) b) a
theorem qp1:∀a b:List Nat,qo1 a b=eqT a b
 | [],[]=>rfl
 | [],_::_=>rfl
 | _::_,[]=>rfl
 | x::a,y::b=>by
  show Bool.rec (motive:=fun _=>Bool) false (qo1 a b) (qOC x y)=(qOC x y && eqT a b)
  rw [qp1 a b]
  cases qOC x y<;>rfl
noncomputable def qvY (x w:D):Option Bool:=D.rec (motive_1:=fun _=>Option Bool) (motive_2:=fun _=>Option Bool) (fun y=>D.same (.b y) w) (fun k n=>D.same (.i k n) w) (fun t=>OT.rec (motive:=fun _=>Option Bool) (D.same (.s t) w) (fun u=>some (qo1 t u)) (vT (.d w))) none (fun _ _=>none) (fun _ _=>none) none none none none none (fun _ _ _ _=>none) x
theorem qu7 (x w:D):qvY x w=D.same x w:=by
 cases x with
 | s t=>
  show OT.rec (motive:=fun _=>Option Bool) (D.same (.s t) w) (fun u=>some (qo1 t u)) (vT (.d w))=_
  cases h:vT (.d w) with
  | no=>rfl
  | s u=>
   have:=qoG h
   cases this
   show some (qo1 t u)=some (eqT t u)
   rw [qp1]
 | b z=>rfl
 | i k n=>rfl
 | _=>cases w<;>rfl
noncomputable def qAU (k:D) (es:List (D × V)):Option (Option V):=List.rec (motive:=fun _=>Option (Option V)) (some none) (fun p _ ih=>Option.rec (motive:=fun _=>Option (Option V)) none (fun b=>Bool.rec (motive:=fun _=>Option (Option V)) ih (some (some p.2)) b) (qvY k p.1)) es
theorem qBb (k:D) (es:List (D × V)):qAU k es=qcy k es:=by
 induction es with
 | nil=>rfl
 | cons p es ih=>
  obtain ⟨k',v⟩:=p
  show Option.rec (motive:=fun _=>Option (Option V)) none (fun b=>Bool.rec (motive:=fun _=>Option (Option V)) (qAU k es) (some (some v)) b) (qvY k k')=qcy k ((k',v)::es)
  rw [qu7,ih]
  simp only [qcy]
  cases D.same k k' with
  | none=>rfl
  | some b=>cases b<;>rfl
noncomputable def qBT (k:D) (v:V) (es:List (D × V)):(List (D × V)->R)->R:=List.rec (motive:=fun _=>(List (D × V)->R)->R) (fun κ=>κ [(k,v)]) (fun p t ih κ=>Option.rec (motive:=fun _=>R) none (fun b=>Bool.rec (motive:=fun _=>R) (ih fun r=>κ (p::r)) (κ ((p.1,v)::t)) b) (qvY k p.1)) es
theorem qrk {k:D} {v:V}:∀{es:List (D × V)} {κ:List (D × V)->R} {x:Ex × St},qBT k v es κ=some x->∃es',qk6 k v es=some es'/\κ es'=some x
 | [],κ,x,h=>⟨_,rfl,h⟩
 | (k',w)::es,κ,x,h=>by
  have h:Option.rec (motive:=fun _=>R) none (fun b=>Bool.rec (motive:=fun _=>R) (qBT k v es fun r=>κ ((k',w)::r)) (κ ((k',v)::es)) b) (qvY k k')=some x:=h
  rw [qu7] at h
  cases hs:D.same k k' with
  | none=>rw [hs] at h;cases h
  | some b=>
   rw [hs] at h
   cases b with
   | true=>exact ⟨_,by simp only [qk6,hs],h⟩
   | false=>
    obtain ⟨es',h1,h2⟩:=qrk (es:=es) h
    exact ⟨_,by simp only [qk6,hs,h1],h2⟩
noncomputable def vD (v:V):Option D:=V.rec (motive_1:=fun _=>Option D) (motive_2:=fun _=>Option D) (fun x=>some x) (fun _=>none) (fun _=>none) (fun _ _=>none) (fun _ _=>none) (fun _ _=>none) (fun _=>none) (fun _ _ _ _=>none) (fun _ _ _=>none) (fun _=>none) (fun _ _ _ _ _=>none) (fun _ _ _=>none) (fun _ _=>none) (fun _ _=>none) none none (fun _ _ _ _=>none) v
theorem qtK {v:V} {x:D} (h:vD v=some x):v=.d x:=by
 cases v with
 | d y=>have h:some y=some x:=h;cases h;rfl
 | _=>cases h
noncomputable def qLq (v:V):Option Nat:=V.rec (motive_1:=fun _=>Option Nat) (motive_2:=fun _=>Option Nat) (fun _=>none) (fun _=>none) (fun _=>none) (fun _ _=>none) (fun _ _=>none) (fun _ _=>none) (fun _=>none) (fun _ _ _ _=>none) (fun _ _ _=>none) (fun a=>some a) (fun _ _ _ _ _=>none) (fun _ _ _=>none) (fun _ _=>none) (fun _ _=>none) none none (fun _ _ _ _=>none) v
theorem qss {v:V} {m:Nat} (h:qLq v=some m):v=.map m:=by
 cases v with
 | map y=>have h:some y=some m:=h;cases h;rfl
 | _=>cases h
noncomputable def qIy (o:Option Obj):Option (List (D × V)):=Option.rec (motive:=fun _=>Option (List (D × V))) none (fun ob=>Obj.rec (motive:=fun _=>Option (List (D × V))) (fun _=>none) (fun es=>some es) (fun _ _=>none) none (fun _=>none) ob) o
theorem qsq {o:Option Obj} {es:List (D × V)} (h:qIy o=some es):o=some (.map es):=by
 cases o with
 | none=>cases h
 | some ob=>cases ob with
  | map c=>have h:some c=some es:=h;cases h;rfl
  | _=>cases h
noncomputable def yQ (b:Bool) (κ:R):R:=Bool.rec (motive:=fun _=>R) none κ b
theorem qW {b:Bool} {κ:R} {x:Ex × St} (h:yQ b κ=some x):b=true/\κ=some x:=by
 cases b with
 | false=>cases h
 | true=>exact ⟨rfl,h⟩
noncomputable def qAH (d:Nat) (kk:Nat) (zero:D) (m q:O) (c:Bool) (g k:K):KF:=fun call n e H lo=>
 orZ (qLq ((kH m).run e)) (g.run call n e H lo) fun id=>orN (vD ((kH q).run e)) fun key=>orN (qIy (fnth H id)) fun es=>yQ (zt kk key) (orN (qAU key es) fun r=>
  Option.rec (motive:=fun _=>R) (Bool.rec (motive:=fun _=>R) (k.run call n ((d,.d zero)::e) H lo) (k.run call n ((d,.tup [.d zero,.d (.b false)])::e) H lo) c) (fun v=>Bool.rec (motive:=fun _=>R) (qya v fun v=>k.run call n ((d,v)::e) H lo) (qya v fun v=>k.run call n ((d,.tup [v,.d (.b true)])::e) H lo) c) r)
theorem qw3 {d kk:Nat} {zero:D} {m q:O} {c:Bool} {g k:K} (hg:qP g.run (.lookup kk zero m q c) (some d) k):qP (qAH d kk zero m q c g k) (.lookup kk zero m q c) (some d) k:=by
 intro call n e H lo z h
 unfold qAH at h
 rcases qnI h with h|⟨id,hm,h⟩
 ·exact hg h
 obtain ⟨key,hq,h⟩:=kN h
 obtain ⟨es,hs,h⟩:=kN h
 obtain ⟨hgk,h⟩:=qW h
 obtain ⟨r,hf,h⟩:=kN h
 have hm:=qss hm
 have hq:=qtK hq
 have hs:=qsq hs
 rw [zI] at hs
 rw [qBb] at hf
 have hm':rd e m=.map id:=(ke (by rw [hm];trivial)).trans hm
 have hq':rd e q=.d key:=(ke (by rw [hq];trivial)).trans hq
 cases r with
 | none=>
  have he:qa call (.lookup kk zero m q c) ⟨e,H,lo⟩=some ⟨false,true,bif c then .tup [.d zero,.d (.b false)] else .d zero,⟨e,H,lo⟩⟩:=by
   simp only [qa,zH,hm',hq',hs,hgk,hf,ok,if_true]
  rw [he]
  cases c<;>exact qi rfl h
 | some v=>
  have he:qa call (.lookup kk zero m q c) ⟨e,H,lo⟩=some ⟨false,true,bif c then .tup [copy v,.d (.b true)] else copy v,⟨e,H,lo⟩⟩:=by
   simp only [qa,zH,hm',hq',hs,hgk,hf,ok,if_true]
  rw [he]
  cases c with
  | false=>
   obtain ⟨hb,h⟩:=qno (v:=v) h
   exact qi hb h
  | true=>
   obtain ⟨hb,h⟩:=qno (v:=v) h
   exact qi rfl h
noncomputable def okF (v:V):Bool:=V.rec (motive_1:=fun _=>Bool) (motive_2:=fun _=>Bool) (fun _=>true) (fun _=>false) (fun _=>true) (fun _ _=>true) (fun _ _=>false) (fun _ _=>false) (fun _=>false) (fun _ _ _ _=>true) (fun _ _ _=>true) (fun _=>true) (fun f a b _ _=>V.ok (.fn f a b)) (fun t x _=>V.ok (.ifc t x)) (fun cs _=>V.ok (.agg cs)) (fun vs _=>V.ok (.tup vs)) true false (fun _ _ _ _=>false) v
theorem qIq (v:V):okF v=v.ok:=by cases v<;>rfl
noncomputable def qId (kk:Nat) (m q x:O) (k:K):KF:=fun call n e H lo=>
 orN (qLq ((kH m).run e)) fun id=>orN (vD ((kH q).run e)) fun key=>orN (qIy (fnth H id)) fun es=>(rdC x).run e fun v=>yQ (zt kk key) (yQ (okF v) (qBT key v es fun es=>qms (.map es) H id fun H=>ql7 lo id fun lo=>k.run call n ((spO x).run e) H lo))
theorem qy0 {kk:Nat} {m q x:O} {k:K}:qP (qId kk m q x k) (.mapUpdate kk m q x) none k:=by
 intro call n e H lo z h
 unfold qId at h
 obtain ⟨id,hm,h⟩:=kN h
 obtain ⟨key,hq,h⟩:=kN h
 obtain ⟨es,hs,h⟩:=kN h
 rw [qhk] at h
 obtain ⟨hgk,h⟩:=qW h
 obtain ⟨hok,h⟩:=qW h
 obtain ⟨es',hp,h⟩:=qrk h
 have h:=qci h
 rw [qgI,qni] at h
 have hm:=qss hm
 have hq:=qtK hq
 have hs:=qsq hs
 rw [zI] at hs
 rw [qIq] at hok
 have hm':rd e m=.map id:=(ke (by rw [hm];trivial)).trans hm
 have hq':rd e q=.d key:=(ke (by rw [hq];trivial)).trans hq
 have he:qa call (.mapUpdate kk m q x) ⟨e,H,lo⟩=some ⟨false,false,.undef,⟨spent x e,qQ H id (.map es'),min lo id⟩⟩:=by
  simp only [qa,zG,hm',hq',hs,hgk,hok,hp,okH,if_true,Bool.and_self]
 rw [he]
 exact ⟨_,rfl,.inl ⟨rfl,_,rfl,h⟩⟩
noncomputable def hdF (size:Nat) (l:List D):Bool:=List.rec (motive:=fun _=>Bool) true (fun x _ _=>qOC (szD x) size) l
theorem qwL (size:Nat) (l:List D):hdF size l=kL size l:=by
 cases l with
 | nil=>rfl
 | cons x l=>show qOC (szD x) size=qOC x.cells.length size;rw [qtX]
noncomputable def qqK (bytes n:Nat):Bool:=Bool.rec (motive:=fun _=>Bool) false (Nat.ble n 140737488355328) (Nat.ble (Nat.mul n bytes) 140737488355328)
theorem qqN (bytes n:Nat):qqK bytes n=roomy bytes n:=by
 show Bool.rec (motive:=fun _=>Bool) false (Nat.ble n 140737488355328) (Nat.ble (n * bytes) 140737488355328)=(Nat.ble (n * bytes) 140737488355328 && Nat.ble n 140737488355328)
 cases Nat.ble (n * bytes) 140737488355328<;>rfl
noncomputable def qB4 {α:Type} (ys:List α) (l:List α):(List α->R)->R:=List.rec (motive:=fun _=>(List α->R)->R) (fun κ=>κ ys) (fun x _ ih κ=>ih fun r=>κ (x::r)) l
theorem qyi {α:Type} (ys l:List α) (κ:List α->R):qB4 ys l κ=κ (l++ys):=by
 induction l generalizing κ with
 | nil=>rfl
 | cons x l ih=>exact ih _
inductive OA where
 | no|nil
 | osl (xs:List D)
 | fsl (xs:List D)
noncomputable def vA (v:V):OA:=V.rec (motive_1:=fun _=>OA) (motive_2:=fun _=>OA) (fun x=>D.rec (motive_1:=fun _=>OA) (motive_2:=fun _=>OA) (fun _=>.no) (fun _ _=>.no) (fun _=>.no) .nil (fun _ _=>.no) (fun _ _=>.no) .no .no .no .no .no (fun _ _ _ _=>.no) x) (fun xs=>.osl xs) (fun xs=>.fsl xs) (fun _ _=>.no) (fun _ _=>.no) (fun _ _=>.no) (fun _=>.no) (fun _ _ _ _=>.no) (fun _ _ _=>.no) (fun _=>.no) (fun _ _ _ _ _=>.no) (fun _ _ _=>.no) (fun _ _=>.no) (fun _ _=>.no) .no .no (fun _ _ _ _=>.no) v
theorem qLr {v:V} (h:vA v=.nil):v=.d .nil:=by
 cases v with
 | d x=>cases x with
  | nil=>rfl
  | _=>cases h
 | _=>cases h
theorem qIC {v:V} {xs:List D} (h:vA v=.osl xs):v=.osl xs:=by
 cases v with
 | osl ys=>have h:OA.osl ys=.osl xs:=h;cases h;rfl
 | d x=>cases x<;>cases h
 | _=>cases h
theorem qKt {v:V} {xs:List D} (h:vA v=.fsl xs):v=.fsl xs:=by
 cases v with
 | fsl ys=>have h:OA.fsl ys=.fsl xs:=h;cases h;rfl
 | d x=>cases x<;>cases h
 | _=>cases h
noncomputable def qMB {α:Type} (l:List α):Bool:=List.rec (motive:=fun _=>Bool) false (fun _ _ _=>true) l
noncomputable def qH5 (d size bytes:Nat) (x y:O) (g k:K):KF:=fun call n e H lo=>
 (rdC x).run e fun a=>(rdC y).run e fun b=>asL b (g.run call n e H lo) (g.run call n e H lo) fun ys=>
  OA.rec (motive:=fun _=>R) (g.run call n e H lo)
   (Bool.rec (motive:=fun _=>R) (g.run call n e H lo) (yQ (hdF size ys) (yQ (qqK bytes (z0 ys)) (k.run call n ((d,.osl ys)::(spO x).run e) H lo))) (qMB ys))
   (fun xs=>yQ (hdF size xs) (yQ (hdF size ys) (yQ (qqK bytes (Nat.add (z0 xs) (z0 ys))) (qB4 ys xs fun zs=>k.run call n ((d,.osl zs)::(spO x).run e) H lo))))
   (fun xs=>yQ (hdF size xs) (yQ (hdF size ys) (yQ (qqK bytes (Nat.add (z0 xs) (z0 ys))) (qB4 ys xs fun zs=>k.run call n ((d,.osl zs)::(spO x).run e) H lo)))) (vA a)
theorem qAa {d size bytes:Nat} {x y:O} {g k:K} (hg:qP g.run (.bi (.append size bytes) [x,y]) (some d) k):qP (qH5 d size bytes x y g k) (.bi (.append size bytes) [x,y]) (some d) k:=by
 intro call n e H lo z h
 unfold qH5 at h
 rw [qhk,qhk] at h
 rcases qrc h with h|⟨_,h⟩|⟨ys,hy,h⟩
 ·exact hg h
 ·exact hg h
 have done:∀{v:V},v.isBox=false->qlT size bytes (rd e x) (rd e y)=some v->k.run call n ((d,v)::(spO x).run e) H lo=some z->qsx (qa call (.bi (.append size bytes) [x,y]) ⟨e,H,lo⟩) (some d) k call n z:=by
  intro v hb hv hk
  have he:qa call (.bi (.append size bytes) [x,y]) ⟨e,H,lo⟩=some ⟨false,true,v,⟨spent x e,H,lo⟩⟩:=by
   simp only [qa,eBi,yE,hv,ok]
  rw [he]
  rw [qni] at hk
  exact qi hb hk
 cases ha:vA (rd e x) with
 | no=>rw [ha] at h;exact hg h
 | nil=>
  rw [ha] at h
  cases ys with
  | nil=>exact hg h
  | cons y0 ys=>
   obtain ⟨h1,h⟩:=qW (κ:=yQ (qqK bytes (z0 (y0::ys))) (k.run call n ((d,.osl (y0::ys))::(spO x).run e) H lo)) h
   obtain ⟨h2,h⟩:=qW h
   rw [qwL] at h1
   rw [qqN,kc] at h2
   exact done rfl (by rw [qLr ha,hy];simp only [qlT,h1,h2,Bool.and_self,cond_true]) h
 | osl xs=>
  rw [ha] at h
  obtain ⟨h1,h⟩:=qW (b:=hdF size xs) (κ:=yQ (hdF size ys) (yQ (qqK bytes (Nat.add (z0 xs) (z0 ys))) (qB4 ys xs fun zs=>k.run call n ((d,.osl zs)::(spO x).run e) H lo))) h
  obtain ⟨h2,h⟩:=qW h
  obtain ⟨h3,h⟩:=qW h
  rw [qwL] at h1 h2
  rw [qqN,kc,kc] at h3
  have h3:roomy bytes (xs.length+ys.length)=true:=h3
  rw [qyi] at h
  exact done rfl (by rw [qIC ha,hy];simp only [qlT,h1,h2,h3,Bool.and_self,cond_true]) h
 | fsl xs=>
  rw [ha] at h
  obtain ⟨h1,h⟩:=qW (b:=hdF size xs) (κ:=yQ (hdF size ys) (yQ (qqK bytes (Nat.add (z0 xs) (z0 ys))) (qB4 ys xs fun zs=>k.run call n ((d,.osl zs)::(spO x).run e) H lo))) h
  obtain ⟨h2,h⟩:=qW h
  obtain ⟨h3,h⟩:=qW h
  rw [qwL] at h1 h2
  rw [qqN,kc,kc] at h3
  have h3:roomy bytes (xs.length+ys.length)=true:=h3
  rw [qyi] at h
  exact done rfl (by rw [qKt ha,hy];simp only [qlT,h1,h2,h3,Bool.and_self,cond_true]) h
noncomputable def qiN (l:List D):Bool:=List.rec (motive:=fun _=>Bool) true (fun x _ ih=>D.rec (motive_1:=fun _=>Bool) (motive_2:=fun _=>Bool) (fun _=>ih) (fun _ _=>ih) (fun _=>ih) ih (fun _ _=>ih) (fun _ _=>false) ih ih ih ih ih (fun _ _ _ _=>ih) x) l
theorem qBu (l:List D):qiN l=D.ones l:=by
 induction l with
 | nil=>rfl
 | cons x l ih=>
  show (D.rec (motive_1:=fun _=>Bool) (motive_2:=fun _=>Bool) (fun _=>qiN l) (fun _ _=>qiN l) (fun _=>qiN l) (qiN l) (fun _ _=>qiN l) (fun _ _=>false) (qiN l) (qiN l) (qiN l) (qiN l) (qiN l) (fun _ _ _ _=>qiN l) x)=(x.one && D.ones l)
  rw [ih]
  cases x<;>rfl
noncomputable def wfF (x:D):Bool:=D.rec (motive_1:=fun _=>Bool) (motive_2:=fun _=>Bool) (fun _=>true) (fun _ _=>true) (fun _=>true) true (fun _ _=>true) (fun cs _=>qiN cs) true true true true true (fun _ _ _ _=>true) x
theorem qKp (x:D):wfF x=x.wf:=by
 cases x with
 | agg cs=>exact qBu cs
 | _=>rfl
noncomputable def qLd (d:Nat) (zero:D) (x:O) (g k:K):KF:=fun call n e H lo=>
 (rdC x).run e fun v=>orZ (vD v) (g.run call n e H lo) fun y=>yQ (qOC (szD y) (szD zero)) (yQ (wfF y) (k.run call n ((d,.osl [y])::e) H lo))
theorem qAk {d:Nat} {zero:D} {x:O} {g k:K} (hg:qP g.run (.buildSlice zero 1 [(0,x)]) (some d) k):qP (qLd d zero x g k) (.buildSlice zero 1 [(0,x)]) (some d) k:=by
 intro call n e H lo z h
 unfold qLd at h
 rw [qhk] at h
 rcases qnI h with h|⟨y,hv,h⟩
 ·exact hg h
 obtain ⟨h1,h⟩:=qW h
 obtain ⟨h2,h⟩:=qW h
 have hv:=qtK hv
 rw [qtX,qtX] at h1
 have h1:=qOz h1
 rw [qKp] at h2
 have he:qa call (.buildSlice zero 1 [(0,x)]) ⟨e,H,lo⟩=some ⟨false,true,.osl [y],⟨e,H,lo⟩⟩:=by
  simp [qa,qX,hv,qdW,h1,D.wfs,h2,ok,List.replicate]
 rw [he];exact qi rfl h
noncomputable def lvF (v:V):Bool:=V.rec (motive_1:=fun _=>Bool) (motive_2:=fun _=>Bool) (fun _=>true) (fun _=>true) (fun _=>true) (fun _ _=>true) (fun _ _=>false) (fun _ _=>false) (fun _=>false) (fun _ _ _ _=>true) (fun _ _ _=>true) (fun _=>true) (fun f a b _ _=>V.ok (.fn f a b)) (fun t x _=>V.ok (.ifc t x)) (fun cs _=>V.ok (.agg cs)) (fun vs _=>V.ok (.tup vs)) true false (fun _ _ _ _=>false) v
theorem qA8 (v:V):lvF v=v.leaves:=by cases v<;>rfl
noncomputable def lvs (l:List V):Bool:=List.rec (motive:=fun _=>Bool) true (fun v _ ih=>Bool.rec (motive:=fun _=>Bool) false ih (lvF v)) l
theorem qxN (l:List V):lvs l=V.allLeave l:=by
 induction l with
 | nil=>rfl
 | cons v l ih=>
  show Bool.rec (motive:=fun _=>Bool) false (lvs l) (lvF v)=(v.leaves && V.allLeave l)
  rw [ih,qA8]
  cases v.leaves<;>rfl
noncomputable def qH3 (dst:Option Nat) (v:V) (k:K):KF:=fun call n e H lo=>
 Option.rec (motive:=fun _=>R) (k.run call n e H lo) (fun d=>qkE v (qiz (some d) v k call n e H lo) fun v=>k.run call n ((d,v)::e) H lo) dst
theorem qwm {dst:Option Nat} {v:V} {same:Bool} {k:K} {call:Call} {n:Nat} {e:Env} {H:List Obj} {lo:Nat} {x:Ex × St} (h:qH3 dst v k call n e H lo=some x):qsx (some ⟨false,same,v,⟨e,H,lo⟩⟩) dst k call n x:=by
 cases dst with
 | none=>exact ⟨_,rfl,.inl ⟨rfl,_,rfl,h⟩⟩
 | some d=>
  have h:qkE v (qiz (some d) v k call n e H lo) (fun v=>k.run call n ((d,v)::e) H lo)=some x:=h
  rcases qlk h with h|⟨hb,h⟩
  ·exact qjY h
  ·exact qi hb h
noncomputable def qBz (dst:Option Nat) (i:Nat) (args:List O) (k:K):KF:=fun call n e H lo=>
 (qAT args).run e fun vs=>yQ (lvs vs) (orN (call i vs H) fun r=>Cr.rec (motive:=fun _=>R) (fun pan same v H' lo'=>ql7 lo lo' fun lo=>Bool.rec (motive:=fun _=>R) (qH3 dst v k call n ((spL args).run e) H' lo) (some (.pan v,⟨(spL args).run e,H',lo⟩)) pan) r)
theorem qoU {dst:Option Nat} {i:Nat} {args:List O} {k:K}:qP (qBz dst i args k) (.call (.f i) args) dst k:=by
 intro call n e H lo z h
 unfold qBz at h
 rw [qtP] at h
 obtain ⟨h1,h⟩:=qW h
 obtain ⟨r,hr,h⟩:=kN h
 rw [qxN] at h1
 obtain ⟨pan,same,v,H',lo'⟩:=r
 have h:(ql7 lo lo' fun lo=>Bool.rec (motive:=fun _=>R) (qH3 dst v k call n ((spL args).run e) H' lo) (some (.pan v,⟨(spL args).run e,H',lo⟩)) pan)=some z:=h
 rw [qgI,qwt] at h
 have he:qa call (.call (.f i) args) ⟨e,H,lo⟩=some ⟨pan,same,v,⟨spentAll args e,H',min lo lo'⟩⟩:=by
  simp only [qa,jc,rd,List.nil_append,List.append_nil,h1,if_true,hr]
 rw [he]
 cases pan with
 | false=>exact qwm h
 | true=>
  have h:some (Ex.pan v,(⟨spentAll args e,H',min lo lo'⟩:St))=some z:=h
  cases h
  exact ⟨_,rfl,.inr ⟨rfl,rfl⟩⟩
noncomputable def qxL {β γ:Type} (l m:List β) (κ:List β->γ):γ:=List.rec (motive:=fun _=>(List β->γ)->γ) (fun κ=>κ m) (fun x _ ih κ=>ih fun t=>κ (x::t)) l κ
theorem qsQ {β γ:Type} (l m:List β) (κ:List β->γ):qxL l m κ=κ (l++m):=by
 induction l generalizing κ with
 | nil=>rfl
 | cons x l ih=>exact ih fun t=>κ (x::t)
noncomputable def qAx (d:Nat) (l:L) (bytes:Nat) (x y:O) (g k:K):KF:=fun call n e H lo=>
 match frd e x with
 | .row id sz len=>match fnth H id with
  | some (.row l' cs)=>match qt9 l (frd e y) with
   | some ys=>Bool.rec (motive:=fun _=>R) none (zV (fun v k=>jE v k) (qaW ys) fun new=>qxL cs new fun cs=>qms .dead H id fun H2=>qxL H2 [.row l' cs] fun H3=>ql (z0 H) fun m=>ql (Nat.add len (z0 ys)) fun len2=>ql7 lo id fun lo=>k.run call n ((d,.row m sz len2)::e) H3 lo)
     (qOC sz l.n && (qOC (z0 cs) (len * sz) && (kL l.n ys && roomy bytes (len+z0 ys))))
   | none=>none
  | _=>g.run call n e H lo
 | _=>g.run call n e H lo
theorem qwK {d:Nat} {l:L} {bytes:Nat} {x y:O} {g k:K} (hg:qP g.run (.appendR l bytes x y) (some d) k):qP (qAx d l bytes x y g k) (.appendR l bytes x y) (some d) k:=by
 intro call n e H lo z h
 unfold qAx at h
 rw [yT] at h
 split at h
 ·rename_i id sz len hx
  rw [zI] at h
  split at h
  ·rename_i l' cs hob
   rw [yT] at h
   split at h
   ·rename_i ys hys
    rw [kc cs,kc ys,kc H] at h
    cases hb:(qOC sz l.n && (qOC cs.length (len * sz) && (kL l.n ys && roomy bytes (len+ys.length)))) with
    | false=>rw [hb] at h;cases h
    | true=>
     rw [hb] at h
     have h:(zV (fun v k=>jE v k) (qaW ys) fun new=>qxL cs new fun cs=>qms .dead H id fun H2=>qxL H2 [.row l' cs] fun H3=>ql H.length fun m=>ql (Nat.add len ys.length) fun len2=>ql7 lo id fun lo=>k.run call n ((d,.row m sz len2)::e) H3 lo)=some z:=h
     rw [kn zz,qsQ] at h
     have h:=qci h
     rw [qsQ,kF,kF,qgI] at h
     have he:qa call (.appendR l bytes x y) ⟨e,H,lo⟩=some ⟨false,false,.row H.length sz (len+ys.length),⟨e,qQ H id .dead++[.row l' (cs++qaW ys)],min lo id⟩⟩:=by
      simp only [qa,yq,hys,hx,hob,hb,cond_true]
      rfl
     rw [he]
     exact qi rfl h
   ·cases h
  ·exact hg h
 ·exact hg h
noncomputable def fTk {β γ:Type} (l:List β):Nat->(List β->γ)->γ:=List.rec (motive:=fun _=>Nat->(List β->γ)->γ) (fun _ κ=>κ []) (fun x _ ih n κ=>Nat.rec (motive:=fun _=>γ) (κ []) (fun m _=>ih m fun t=>κ (x::t)) n) l
theorem qxF {β γ:Type}:∀(l:List β) (n:Nat) (κ:List β->γ),fTk l n κ=κ (l.take n)
 | [],n,κ=>by simp [fTk]
 | x::l,0,κ=>rfl
 | x::l,n+1,κ=>by
  show fTk l n (fun t=>κ (x::t))=_
  rw [qxF];rfl
theorem qCT {a b:Int} (h:leI a b=true):a<=b:=by
 cases a<;>cases b<;>simp only [leI] at h
 ·have:=qOH h
  simp only [Int.ofNat_eq_natCast];omega
 ·cases h
 ·simp only [Int.ofNat_eq_natCast,Int.negSucc_eq];omega
 ·have:=qOH h
  simp only [Int.negSucc_eq];omega
noncomputable def qGl (d:Nat) (x hi:O) (g k:K):KF:=fun call n e H lo=>
 match frd e x,frd e hi with
 | .row id sz len,.d (.i _ h)=>match fnth H id with
  | some (.row l cs)=>Bool.rec (motive:=fun _=>R) none (fTk cs (h.toNat * sz) fun cs=>qms .dead H id fun H2=>qxL H2 [.row l cs] fun H3=>ql (z0 H) fun m=>ql h.toNat fun hn=>ql7 lo id fun lo=>k.run call n ((d,.row m sz hn)::e) H3 lo)
    (leI 0 h && (leI h len && qOC (z0 cs) (len * sz)))
  | _=>g.run call n e H lo
 | _,_=>g.run call n e H lo
theorem qz4 {d:Nat} {x hi:O} {g k:K} (hg:qP g.run (.truncR x hi) (some d) k):qP (qGl d x hi g k) (.truncR x hi) (some d) k:=by
 intro call n e H lo z h
 unfold qGl at h
 rw [yT,yT] at h
 split at h
 ·rename_i id sz len kk hh hx hhi
  rw [zI] at h
  split at h
  ·rename_i l cs hob
   rw [kc cs,kc H] at h
   cases hb:(leI 0 hh && (leI hh len && qOC cs.length (len * sz))) with
   | false=>rw [hb] at h;cases h
   | true=>
    rw [hb] at h
    have h:(fTk cs (hh.toNat * sz) fun cs=>qms .dead H id fun H2=>qxL H2 [.row l cs] fun H3=>ql H.length fun m=>ql hh.toNat fun hn=>ql7 lo id fun lo=>k.run call n ((d,.row m sz hn)::e) H3 lo)=some z:=h
    rw [qxF] at h
    have h:=qci h
    rw [qsQ,kF,kF,qgI] at h
    simp only [qOy] at hb
    have hc:0<=hh/\hh<=(len:Int)/\cs.length=len * sz:=⟨qCT hb.1,qCT hb.2.1,qOz hb.2.2⟩
    have he:qa call (.truncR x hi) ⟨e,H,lo⟩=some ⟨false,false,.row H.length sz hh.toNat,⟨e,qQ H id .dead++[.row l (cs.take (hh.toNat * sz))],min lo id⟩⟩:=by
     simp only [qa,qcx,hx,hhi,hob,hc,and_self,if_true]
     rfl
    rw [he]
    exact qi rfl h
  ·exact hg h
 ·exact hg h
noncomputable def fDr {β γ:Type} (l:List β):Nat->(List β->γ)->γ:=List.rec (motive:=fun _=>Nat->(List β->γ)->γ) (fun _ κ=>κ []) (fun x r ih n κ=>Nat.rec (motive:=fun _=>γ) (κ (x::r)) (fun m _=>ih m κ) n) l
theorem qCl {β γ:Type}:∀(l:List β) (n:Nat) (κ:List β->γ),fDr l n κ=κ (l.drop n)
 | [],n,κ=>by simp [fDr]
 | x::l,0,κ=>rfl
 | x::l,n+1,κ=>by
  show fDr l n κ=_
  rw [qCl];rfl
noncomputable def fDc {β γ:Type} (l:List β) (n:Nat) (κ:List β->γ):γ:=fDr (qwc l (Nat.div n 16)) (Nat.mod n 16) κ
theorem qxq {β γ:Type} (l:List β) (n:Nat) (κ:List β->γ):fDc l n κ=κ (l.drop n):=by
 unfold fDc
 rw [qCl,qqR,List.drop_drop]
 congr 2
 have e:Nat.div n 16=n / 16:=rfl
 have e2:Nat.mod n 16=n % 16:=rfl
 rw [e,e2];omega
noncomputable def qIY (d:Nat) (x a:O) (g k:K):KF:=fun call n e H lo=>
 asT ((kH x).run e) (g.run call n e H lo) fun t=>asN ((kH a).run e) none fun _ z=>qr1 z fun m=>Bool.rec (motive:=fun _=>R) none (fDc t m fun r=>k.run call n ((d,.d (.s r))::e) H lo) (Nat.ble m (z0 t))
theorem qzF {d:Nat} {x a:O} {g k:K} (hg:qP g.run (.sliceS x (some a) none) (some d) k):qP (qIY d x a g k) (.sliceS x (some a) none) (some d) k:=by
 intro call n e H lo z h
 unfold qIY at h
 rcases qnS h with h|⟨t,hx,h⟩
 ·exact hg h
 rcases qbw h with h|⟨kk,w,hi,h⟩
 ·cases h
 obtain ⟨m,rfl,h1⟩:=qe5 h
 replace h:=h1
 clear h1
 rw [kc] at h
 cases hb:Nat.ble m t.length with
 | false=>rw [hb] at h;cases h
 | true=>
  rw [hb,qxq] at h
  have hx':rd e x=.d (.s t):=(ke (by rw [hx];trivial)).trans hx
  have h0:leI 0 (Int.ofNat m)=true:=by show Nat.ble 0 m=true;exact Nat.ble_eq_true_of_le (Nat.zero_le m)
  have h1:leI (Int.ofNat m) (t.length:Int)=true:=hb
  have h2:leI (t.length:Int) (t.length:Int)=true:=Nat.ble_eq_true_of_le (qOB _)
  have he:qa call (.sliceS x (some a) none) ⟨e,H,lo⟩=some ⟨false,true,.d (.s (t.drop m)),⟨e,H,lo⟩⟩:=by
   simp only [qa,jq,qN,hx',qos hi,qhm,qkw,Option.getD_some,Option.getD_none,h0,h1,h2,Bool.and_self,cond_true,ok]
   simp
  rw [he];exact qi rfl h
noncomputable def qF7 (d:Nat) (x a b:O) (g k:K):KF:=fun call n e H lo=>
 asT ((kH x).run e) (g.run call n e H lo) fun t=>asN ((kH a).run e) none fun _ z=>qr1 z fun m=>asN ((kH b).run e) none fun _ z=>qr1 z fun p=>Bool.rec (motive:=fun _=>R) none (Bool.rec (motive:=fun _=>R) none (fDc t m fun r=>fTk r (Nat.sub p m) fun r=>k.run call n ((d,.d (.s r))::e) H lo) (Nat.ble p (z0 t))) (Nat.ble m p)
theorem qAg {d:Nat} {x a b:O} {g k:K} (hg:qP g.run (.sliceS x (some a) (some b)) (some d) k):qP (qF7 d x a b g k) (.sliceS x (some a) (some b)) (some d) k:=by
 intro call n e H lo z h
 unfold qF7 at h
 rcases qnS h with h|⟨t,hx,h⟩
 ·exact hg h
 rcases qbw h with h|⟨kk,w,hi,h⟩
 ·cases h
 obtain ⟨m,rfl,h1⟩:=qe5 h
 replace h:=h1
 clear h1
 rcases qbw h with h|⟨kk2,w2,hi2,h⟩
 ·cases h
 obtain ⟨p,rfl,h1⟩:=qe5 h
 replace h:=h1
 clear h1
 rw [kc] at h
 cases hc:Nat.ble m p with
 | false=>rw [hc] at h;cases h
 | true=>
 rw [hc] at h
 cases hb:Nat.ble p t.length with
 | false=>rw [hb] at h;cases h
 | true=>
  rw [hb] at h
  have h:(fDc t m fun r=>fTk r (Nat.sub p m) fun r=>k.run call n ((d,.d (.s r))::e) H lo)=some z:=h
  rw [qxq,qxF] at h
  have hx':rd e x=.d (.s t):=(ke (by rw [hx];trivial)).trans hx
  have h0:leI 0 (Int.ofNat m)=true:=by show Nat.ble 0 m=true;exact Nat.ble_eq_true_of_le (Nat.zero_le m)
  have h1:leI (Int.ofNat m) (Int.ofNat p)=true:=hc
  have h2:leI (Int.ofNat p) (t.length:Int)=true:=hb
  have he:qa call (.sliceS x (some a) (some b)) ⟨e,H,lo⟩=some ⟨false,true,.d (.s ((t.drop m).take (Nat.sub p m))),⟨e,H,lo⟩⟩:=by
   simp only [qa,jq,qN,hx',qos hi,qos hi2,qhm,qkw,Option.getD_some,h0,h1,h2,Bool.and_self,cond_true,ok]
   show some _=some _
   congr 4
   exact List.drop_take
  rw [he];exact qi rfl h
noncomputable def qBc (d:Nat) (c a b:O) (k:K):KF:=fun call n e H lo=>
 asB ((kH c).run e) ((rdC a).run e fun v=>k.run call n ((d,v)::e) H lo) ((rdC b).run e fun v=>k.run call n ((d,v)::e) H lo)
theorem qw0 {d:Nat} {c a b:O} {k:K}:qP (qBc d c a b k) (.pick c a b) (some d) k:=by
 intro call n e H lo z h
 unfold qBc at h
 rw [qhk,qhk] at h
 rcases qq0 h with ⟨hx,h⟩|⟨hx,h⟩
 ·have hx':rd e c=.d (.b true):=(ke (by rw [hx];trivial)).trans hx
  rw [show qa call (.pick c a b) ⟨e,H,lo⟩=some ⟨false,true,rd e a,⟨e,H,lo⟩⟩ by simp only [qa,qfK,hx',if_true,ok]]
  exact qi (qxT e a) h
 ·have hx':rd e c=.d (.b false):=(ke (by rw [hx];trivial)).trans hx
  rw [show qa call (.pick c a b) ⟨e,H,lo⟩=some ⟨false,true,rd e b,⟨e,H,lo⟩⟩ by simp only [qa,qfK,hx',qOF,if_false,ok]]
  exact qi (qxT e b) h
noncomputable def asF (v:V) (z:R) (κ:Nat->R):R:=OF.rec (motive:=fun _=>R) z κ (vF v)
theorem qvg {v:V} {z:R} {κ:Nat->R} {x:Ex × St} (h:asF v z κ=some x):z=some x\/∃i,v=.fn i [] []/\κ i=some x:=by
 unfold asF at h
 cases hv:vF v with
 | no=>rw [hv] at h;exact .inl h
 | f i=>rw [hv] at h;exact .inr ⟨i,qN7 hv,h⟩
theorem qCf {call:Call} {f:O} {args:List O} {e:Env} {H:List Obj} {lo i:Nat} (hx:(kH f).run e=.fn i [] []):qa call (.call f args) ⟨e,H,lo⟩=qa call (.call (.f i) args) ⟨e,H,lo⟩:=by
 have hx':rd e f=.fn i [] []:=(ke (by rw [hx];trivial)).trans hx
 have e2:rd e (.f i)=.fn i [] []:=rfl
 simp only [qa,jc,hx',e2]
noncomputable def qLh (dst:Option Nat) (f:O) (args:List O) (g k:K):KF:=fun call n e H lo=>
 asF ((kH f).run e) (g.run call n e H lo) fun i=>qBz dst i args k call n e H lo
theorem qz6 {dst:Option Nat} {f:O} {args:List O} {g k:K} (hg:qP g.run (.call f args) dst k):qP (qLh dst f args g k) (.call f args) dst k:=by
 intro call n e H lo z h
 unfold qLh at h
 rcases qvg h with h|⟨i,hi,h⟩
 ·exact hg h
 ·rw [qCf hi];exact qoU h
noncomputable def qrI (dst:Option Nat) (op:OpK) (k:K):K:=
 match dst with
 | some d=>match op with
  | .mov x=>.mk (qHp d x k)
  | .bin op kd x y=>qJn d op kd x y k
  | .load false sl l a=>.mk (qEZ d sl l a (gK (some d) (.load false sl l a) k) k)
  | .loadC l a=>.mk (qwW d l a k)
  | .nilCheck a=>.mk (qF3 d a (gK (some d) (.nilCheck a) k) k)
  | .fieldAddr a o l=>.mk (qI1 d a o l (gK (some d) (.fieldAddr a o l) k) k)
  | .indexAddr x i size none=>.mk (qHo d x i size (gK (some d) (.indexAddr x i size none) k) k)
  | .index x i=>.mk (qIL d x i k)
  | .extract (.t m) i=>.mk (qI8 d m i k)
  | .bi .lenS [x]=>.mk (qAM d x k)
  | .bi .lenL [x]=>.mk (qBZ d x (gK (some d) (.bi .lenL [x]) k) k)
  | .bi (.append size bytes) [x,y]=>.mk (qH5 d size bytes x y (gK (some d) (.bi (.append size bytes) [x,y]) k) k)
  | .un .not x=>.mk (qKH d x k)
  | .alloc false zero=>.mk (qIN d zero k)
  | .mkMap=>.mk (qLi d k)
  | .lookup kk zero m q c=>.mk (qAH d kk zero m q c (gK (some d) (.lookup kk zero m q c) k) k)
  | .buildSlice zero 1 [(0,x)]=>.mk (qLd d zero x (gK (some d) (.buildSlice zero 1 [(0,x)]) k) k)
  | .call (.f i) args=>.mk (qBz (some d) i args k)
  | .appendR l b x y=>.mk (qAx d l b x y (gK (some d) (.appendR l b x y) k) k)
  | .truncR x hi=>.mk (qGl d x hi (gK (some d) (.truncR x hi) k) k)
  | .pick c a b=>.mk (qBc d c a b k)
  | .call f args=>.mk (qLh (some d) f args (gK (some d) (.call f args) k) k)
  | .sliceS x (some a) none=>.mk (qIY d x a (gK (some d) (.sliceS x (some a) none) k) k)
  | .sliceS x (some a) (some b)=>.mk (qF7 d x a b (gK (some d) (.sliceS x (some a) (some b)) k) k)
  | op=>gK (some d) op k
 | none=>match op with
  | .store sl ⟨1,false⟩ a x=>.mk (qLx sl a x (gK none (.store sl ⟨1,false⟩ a x) k) k)
  | .mapUpdate kk m q x=>.mk (qId kk m q x k)
  | .call (.f i) args=>.mk (qBz none i args k)
  | op=>gK none op k
theorem qzc {dst:Option Nat} {op:OpK} {k:K}:qP (qrI dst op k).run op dst k:=by
 unfold qrI
 split
 ·split
  ·exact qzM
  ·exact qAs
  ·exact qxo qY
  ·exact qwk
  ·exact qzn qY
  ·exact qzW qY
  ·exact qzf qY
  ·exact qzE
  ·exact qAd
  ·exact qxG
  ·exact qwx qY
  ·exact qAa qY
  ·exact qzk
  ·exact qy1
  ·exact qzp
  ·exact qw3 qY
  ·exact qAk qY
  ·exact qoU
  ·exact qwK qY
  ·exact qz4 qY
  ·exact qw0
  ·exact qz6 qY
  ·exact qzF qY
  ·exact qAg qY
  ·exact qY
 ·split
  ·exact qAn qY
  ·exact qy0
  ·exact qoU
  ·exact qY
theorem qmU {dst:Option Nat} {op:OpK} {k:K} {call:Call} {n:Nat} {e:Env} {H:List Obj} {lo:Nat} {z:Ex × St} (h:(qrI dst op k).run call n e H lo=some z):qsx (qa call op ⟨e,H,lo⟩) dst k call n z:=qzc h
noncomputable def vG (v:V):Option (Option Bool):=V.rec (motive_1:=fun _=>Option (Option Bool)) (motive_2:=fun _=>Option (Option Bool)) (fun x=>D.rec (motive_1:=fun _=>Option (Option Bool)) (motive_2:=fun _=>Option (Option Bool)) (fun y=>some (some y)) (fun _ _=>none) (fun _=>none) none (fun _ _=>none) (fun _ _=>none) none none none none none (fun _ _ _ _=>none) x) (fun _=>none) (fun _=>none) (fun _ _=>none) (fun _ _=>none) (fun _ _=>none) (fun _=>none) (fun _ _ _ _=>none) (fun _ _ _=>none) (fun _=>none) (fun _ _ _ _ _=>none) (fun _ _ _=>none) (fun _ _=>none) (fun vs _=>List.rec (motive:=fun _=>Option (Option Bool)) (some none) (fun _ _ _=>none) vs) none none (fun _ _ _ _=>none) v
theorem qFm (m:Nat) (w:Bool) (e:Env):wanted (some (m,w)) e=Option.rec (motive:=fun _=>Option Bool) none (fun r=>Option.rec (motive:=fun _=>Option Bool) (some false) (fun z=>some (z == w)) r) (vG (fget m e)):=by
 rw [yG]
 simp only [wanted]
 cases get m e with
 | d x=>cases x<;>rfl
 | tup vs=>cases vs<;>rfl
 | _=>rfl
noncomputable def eqB (a b:Bool):Bool:=Bool.rec (motive:=fun _=>Bool) (Bool.rec (motive:=fun _=>Bool) true false b) b a
theorem qCU (a b:Bool):eqB a b=(a == b):=by cases a<;>cases b<;>rfl
noncomputable def qCA (o:Op) (k:K):K:=
 match o.g with
 | none=>qrI o.dst o.k k
 | some (m,w)=>.mk fun call n e H lo=>orN (vG (fget m e)) fun r=>Option.rec (motive:=fun _=>R) (qiz o.dst (.tup []) k call n e H lo) (fun z=>Bool.rec (motive:=fun _=>R) (qiz o.dst (.tup []) k call n e H lo) ((qrI o.dst o.k k).run call n e H lo) (eqB z w)) r
noncomputable def qg8 (l:List Op) (k:K):K:=List.rec (motive:=fun _=>K) k (fun o _ ih=>qCA o ih) l
theorem qlu {pg:Pg} {call:Call} (hc:yU call (qh pg)) {n:Nat} {k:K}:∀(l:List Op) {e:Env} {H:List Obj} {lo:Nat} {x:Ex × St},(qg8 l k).run call n e H lo=some x->quP pg (qk (qh pg) l ⟨e,H,lo⟩) k call n x
 | [],e,H,lo,x,h=>.inl ⟨⟨e,H,lo⟩,rfl,h⟩
 | o::l,e,H,lo,x,h=>by
  have h:(qCA o (qg8 l k)).run call n e H lo=some x:=h
  have key:wanted o.g e=some true->(qrI o.dst o.k (qg8 l k)).run call n e H lo=some x->quP pg (qk (qh pg) (o::l) ⟨e,H,lo⟩) k call n x:=by
   intro hw h
   obtain ⟨q,hq,hq2⟩:=qmU h
   have hq':=qfg hc hq
   simp only [qk,hw,hq']
   rcases hq2 with ⟨hp,st,hst,hrun⟩|⟨hp,rfl⟩
   ·rw [hp,hst]
    exact qlu hc l hrun
   ·rw [hp]
    exact .inr ⟨rfl,by simp⟩
  have skip:wanted o.g e=some false->qiz o.dst (.tup []) (qg8 l k) call n e H lo=some x->quP pg (qk (qh pg) (o::l) ⟨e,H,lo⟩) k call n x:=by
   intro hw' h
   obtain ⟨q,hq,hq2⟩:=qjY (same:=true) h
   cases hq
   rcases hq2 with ⟨_,st,hst,hrun⟩|⟨hp,_⟩
   ·simp only [qk,hw']
    rw [hst]
    exact qlu hc l hrun
   ·cases hp
  unfold qCA at h
  split at h
  ·rename_i hg
   exact key (by rw [hg];rfl) h
  ·rename_i m w hg
   have h:(orN (vG (fget m e)) fun r=>Option.rec (motive:=fun _=>R) (qiz o.dst (.tup []) (qg8 l k) call n e H lo) (fun z=>Bool.rec (motive:=fun _=>R) (qiz o.dst (.tup []) (qg8 l k) call n e H lo) ((qrI o.dst o.k (qg8 l k)).run call n e H lo) (eqB z w)) r)=some x:=h
   obtain ⟨r,hr,h⟩:=kN h
   have hw:=qFm m w e
   rw [hr] at hw
   rw [<- hg] at hw
   cases r with
   | none=>exact skip hw h
   | some z=>
    have hw:wanted o.g e=some (z == w):=hw
    rw [<- qCU] at hw
    have h:Bool.rec (motive:=fun _=>R) (qiz o.dst (.tup []) (qg8 l k) call n e H lo) ((qrI o.dst o.k (qg8 l k)).run call n e H lo) (eqB z w)=some x:=h
    cases hb:eqB z w with
    | false=>rw [hb] at h hw;exact skip hw h
    | true=>rw [hb] at h hw;exact key hw h
noncomputable def nbK (k:K):K:=.mk fun call n e H lo=>List.rec (motive:=fun _=>R) none (fun p _ _=>Prod.rec (motive:=fun _=>R) (fun _ v=>qkE v none fun _=>k.run call n e H lo) p) e
theorem quS {k:K} {call:Call} {n d:Nat} {v:V} {e:Env} {H:List Obj} {lo:Nat} {x:Ex × St} (h:(nbK k).run call n ((d,v)::e) H lo=some x):v.isBox=false/\k.run call n ((d,v)::e) H lo=some x:=by
 have h:qkE v none (fun _=>k.run call n ((d,v)::e) H lo)=some x:=h
 rcases qlk h with h|h
 ·cases h
 ·exact h
def qye:OpK->Bool
 | .mov _ | .pick _ _ _ | .build _ _ | .buildSlice _ _ _ | .load _ _ _ _ | .loadC _ _ | .nilCheck _ | .bin _ _ _ _ | .un _ _ | .conv _ _ | .fieldAddr _ _ _ | .field _ _ _ | .indexAddr _ _ _ _ | .index _ _ | .extract _ _ | .bi _ _ | .store _ _ _ _ | .lookup _ _ _ _ _ | .sliceS _ _ _ | .appendR _ _ _ _=>true
 | _=>false
def qv3:OpK->Bool
 | .load mv _ _ _=>!mv
 | .store _ _ _ _ | .appendR _ _ _ _=>false
 | _=>true
theorem qEW {v:V} {st:St} {q:Or} (h:ok v st=some q):q.pan=false/\q.same=true:=by cases h;exact ⟨rfl,rfl⟩
theorem qM6 {v:V} {st:St} {q:Or} (h:okH v st=some q):q.pan=false:=by cases h;rfl
theorem qDX {op:OpK} (hf:qye op=true) {call:Call} {st:St} {q:Or} (h:qa call op st=some q):q.pan=false/\(qv3 op=true->q.same=true):=by
 cases op<;>first
  | cases hf;done
  | skip
 all_goals simp only [qa,qrJ,qfK,qcp,qX,zB,qfw,kS,qoZ,eUn,qiR,qU,qe3,qV,jn,zM,qe9,yi,eBi,qkb,qcZ,qol,yE,yS,zH,jq,yq,qOx] at h
 all_goals repeat' split at h
 all_goals first
  | (cases h;done)
  | exact ⟨(qEW h).1,fun _=>(qEW h).2⟩
  | exact ⟨qM6 h,fun hp=>by first|(cases hp;done)|(simp_all [qv3])⟩
def qqk (f:KF) (op:OpK) (se:Bool) (no:List Nat) (dst:Option Nat) (k:K):Prop:=∀{call:Call} {n:Nat} {e:Env} {H:List Obj} {lo:Nat} {x:Ex × St},f call n e H lo=some x->
 ∃q,qa call op ⟨e,H,lo⟩=some q/\((q.pan=false/\(q.same || se)=true/\∃st,jC (qpT op) no dst q.v q.st=some st/\k.run call n st.env st.H st.lo=some x)\/(q.pan=true/\qT yr no=true/\x=(.pan q.v,{q.st with env:=[]})))
theorem qyq {bx:Bool} {d:Nat} {v:V} {st:St} (h:v.isBox=false):jC bx [] (some d) v st=some {st with env:=(d,v)::st.env}:=by
 cases v<;>first|rfl|cases h
theorem qD4 {k:K} {call:Call} {n d:Nat} {v:V} {st:St} {x:Ex × St} (h:(nbK k).run call n (put (some d) v st).env (put (some d) v st).H (put (some d) v st).lo=some x):v.isBox=false/\k.run call n ((d,v)::st.env) st.H st.lo=some x:=by
 cases v with
 | box cs=>
  have h:(nbK k).run call n ((d,.box cs)::qbt d st.env) st.H st.lo=some x:=h
  have:=(quS h).1
  cases this
 | _=>exact quS h
noncomputable def qE3 (dst:Option Nat) (op:OpK) (k:K):K:=
 match dst with
 | some d=>qrI (some d) op (nbK k)
 | none=>qrI none op k
theorem qwz {dst:Option Nat} {op:OpK} {se:Bool} {k:K} (hf:qye op=true) (hp:(qv3 op || se)=true):qqk (qE3 dst op k).run op se [] dst k:=by
 intro call n e H lo x h
 have key:∀q:Or,qa call op ⟨e,H,lo⟩=some q->q.pan=false/\(q.same || se)=true:=fun q hq=>by
  obtain ⟨h1,h2⟩:=qDX hf hq
  refine ⟨h1,?_⟩
  rw [Bool.or_eq_true] at hp |-
  exact hp.imp h2 id
 cases dst with
 | some d=>
  obtain ⟨q,hq,h2⟩:=qmU (dst:=some d) h
  obtain ⟨h3,h4⟩:=key q hq
  rcases h2 with ⟨_,st,rfl,h5⟩|⟨h5,_⟩
  ·obtain ⟨hb,h6⟩:=qD4 h5
   exact ⟨q,hq,.inl ⟨h3,h4,_,qyq hb,h6⟩⟩
  ·rw [h3] at h5;cases h5
 | none=>
  obtain ⟨q,hq,h2⟩:=qmU (dst:=none) h
  obtain ⟨h3,h4⟩:=key q hq
  rcases h2 with ⟨_,st,rfl,h5⟩|⟨h5,_⟩
  ·exact ⟨q,hq,.inl ⟨h3,h4,_,rfl,h5⟩⟩
  ·rw [h3] at h5;cases h5
noncomputable def qsa (dst:Option Nat) (op:OpK) (se:Bool) (no:List Nat) (k:K):KF:=fun call n e H lo=>
 match (qI2 op).run call ⟨e,H,lo⟩ with
 | some ⟨pan,same,v,⟨e',H',lo'⟩⟩=>Bool.rec (motive:=fun _=>R) (Bool.rec (motive:=fun _=>R) none
   (qqw (makes op) v fun v=>match jC (qpT op) no dst v ⟨e',H',lo'⟩ with
    | some ⟨e2,H2,lo2⟩=>Bool.rec (motive:=fun _=>R) (qqI (qnE op) H2 fun H2=>ql lo2 fun lo2=>k.run call n e2 H2 lo2) (k.run call n e2 H2 lo2) same
    | none=>none) (same || se)) (Bool.rec (motive:=fun _=>R) none (some (.pan v,⟨[],H',lo'⟩)) (qT yr no)) pan
 | none=>none
theorem qjk {dst:Option Nat} {op:OpK} {se:Bool} {no:List Nat} {k:K}:qqk (qsa dst op se no k) op se no dst k:=by
 intro call n e H lo x h
 unfold qsa at h
 rw [qyf] at h
 split at h
 ·rename_i pan same v e' H' lo' hq
  cases pan with
  | true=>
   have h:Bool.rec (motive:=fun _=>R) none (some (.pan v,⟨[],H',lo'⟩)) (qT yr no)=some x:=h
   cases hm:qT yr no with
   | false=>rw [hm] at h;cases h
   | true=>
    rw [hm] at h
    exact ⟨_,hq,.inr ⟨rfl,rfl,(Option.some.inj h).symm⟩⟩
  | false=>
   cases hs:(same || se) with
   | false=>rw [hs] at h;cases h
   | true=>
    rw [hs] at h
    have h:(qqw (makes op) v fun v=>match jC (qpT op) no dst v ⟨e',H',lo'⟩ with
     | some ⟨e2,H2,lo2⟩=>Bool.rec (motive:=fun _=>R) (qqI (qnE op) H2 fun H2=>ql lo2 fun lo2=>k.run call n e2 H2 lo2) (k.run call n e2 H2 lo2) same
     | none=>none)=some x:=h
    rw [qsH] at h
    split at h
    ·rename_i e2 H2 lo2 hp
     refine ⟨_,hq,.inl ⟨rfl,hs,_,hp,?_⟩⟩
     cases same with
     | false=>simpa only [qsI,kF] using h
     | true=>exact h
    ·cases h
 ·cases h
noncomputable def qD9 (d i:Nat) (args:List O) (se:Bool) (k:K):KF:=fun call n e H lo=>
 (qAT args).run e fun vs=>yQ (lvs vs) (orN (call i vs H) fun r=>Cr.rec (motive:=fun _=>R) (fun pan same v H' lo'=>ql7 lo lo' fun lo=>Bool.rec (motive:=fun _=>R) (Bool.rec (motive:=fun _=>R) none (qkE v none fun v=>k.run call n ((d,v)::(spL args).run e) H' lo) (same || se)) none pan) r)
theorem qr0 {d i:Nat} {args:List O} {se:Bool} {k:K}:qqk (qD9 d i args se k) (.call (.f i) args) se [] (some d) k:=by
 intro call n e H lo z h
 unfold qD9 at h
 rw [qtP] at h
 obtain ⟨h1,h⟩:=qW h
 obtain ⟨r,hr,h⟩:=kN h
 rw [qxN] at h1
 obtain ⟨pan,same,v,H',lo'⟩:=r
 have h:(ql7 lo lo' fun lo=>Bool.rec (motive:=fun _=>R) (Bool.rec (motive:=fun _=>R) none (qkE v none fun v=>k.run call n ((d,v)::(spL args).run e) H' lo) (same || se)) none pan)=some z:=h
 rw [qgI,qwt] at h
 cases pan with
 | true=>cases h
 | false=>
  cases hs:(same || se) with
  | false=>rw [hs] at h;cases h
  | true=>
   rw [hs] at h
   have h:qkE v none (fun v=>k.run call n ((d,v)::spentAll args e) H' (min lo lo'))=some z:=h
   rcases qlk h with h|⟨hb,h⟩
   ·cases h
   ·have he:qa call (.call (.f i) args) ⟨e,H,lo⟩=some ⟨false,same,v,⟨spentAll args e,H',min lo lo'⟩⟩:=by
     simp only [qa,jc,rd,List.nil_append,List.append_nil,h1,if_true,hr]
    exact ⟨_,he,.inl ⟨rfl,hs,_,qyq hb,h⟩⟩
theorem qCk {bx:Bool} {d:Nat} {v:V} {st:St} (h:v.isBox=false) (hl:∀m o,v≠.lp m o):jC bx [yr] (some d) v st=some {st with env:=(d,v)::st.env}:=by
 cases v<;>first|exact absurd rfl (hl _ _)|(cases h;done)|rfl
noncomputable def qFV (d i:Nat) (args:List O) (se:Bool) (k:K):KF:=fun call n e H lo=>
 (qAT args).run e fun vs=>yQ (lvs vs) (orN (call i vs H) fun r=>Cr.rec (motive:=fun _=>R) (fun pan same v H' lo'=>ql7 lo lo' fun lo=>Bool.rec (motive:=fun _=>R) (Bool.rec (motive:=fun _=>R) none (qtH v none fun v=>k.run call n ((d,v)::(spL args).run e) H' lo) (same || se)) (some (.pan v,⟨[],H',lo⟩)) pan) r)
theorem qy4 {d i:Nat} {args:List O} {se:Bool} {k:K}:qqk (qFV d i args se k) (.call (.f i) args) se [yr] (some d) k:=by
 intro call n e H lo z h
 unfold qFV at h
 rw [qtP] at h
 obtain ⟨h1,h⟩:=qW h
 obtain ⟨r,hr,h⟩:=kN h
 rw [qxN] at h1
 obtain ⟨pan,same,v,H',lo'⟩:=r
 have h:(ql7 lo lo' fun lo=>Bool.rec (motive:=fun _=>R) (Bool.rec (motive:=fun _=>R) none (qtH v none fun v=>k.run call n ((d,v)::(spL args).run e) H' lo) (same || se)) (some (.pan v,⟨[],H',lo⟩)) pan)=some z:=h
 rw [qgI,qwt] at h
 cases pan with
 | true=>
  have he:qa call (.call (.f i) args) ⟨e,H,lo⟩=some ⟨true,same,v,⟨spentAll args e,H',min lo lo'⟩⟩:=by
   simp only [qa,jc,rd,List.nil_append,List.append_nil,h1,if_true,hr]
  exact ⟨_,he,.inr ⟨rfl,rfl,(Option.some.inj h).symm⟩⟩
 | false=>
  cases hs:(same || se) with
  | false=>rw [hs] at h;cases h
  | true=>
   rw [hs] at h
   have h:qtH v none (fun v=>k.run call n ((d,v)::spentAll args e) H' (min lo lo'))=some z:=h
   obtain ⟨hb,hl,h⟩:=qvS h
   ·have he:qa call (.call (.f i) args) ⟨e,H,lo⟩=some ⟨false,same,v,⟨spentAll args e,H',min lo lo'⟩⟩:=by
     simp only [qa,jc,rd,List.nil_append,List.append_nil,h1,if_true,hr]
    exact ⟨_,he,.inl ⟨rfl,hs,_,qCk hb hl,h⟩⟩
noncomputable def qBM (d:Nat) (f:O) (args:List O) (se:Bool) (g:K) (k:K):KF:=fun call n e H lo=>
 asF ((kH f).run e) (g.run call n e H lo) fun i=>qD9 d i args se k call n e H lo
theorem qxj {d:Nat} {f:O} {args:List O} {se:Bool} {g k:K} (hg:qqk g.run (.call f args) se [] (some d) k):qqk (qBM d f args se g k) (.call f args) se [] (some d) k:=by
 intro call n e H lo z h
 unfold qBM at h
 rcases qvg h with h|⟨i,hi,h⟩
 ·exact hg h
 ·rw [qCf hi];exact qr0 h
noncomputable def qwS (dst:Option Nat) (op:OpK) (se:Bool) (no:List Nat) (k:K):K:=
 match no,op,dst with
 | [],.call (.f i) args,some d=>.mk (qD9 d i args se k)
 | [],.call f args,some d=>.mk (qBM d f args se (.mk (qsa (some d) (.call f args) se [] k)) k)
 | [m],.call (.f i) args,some d=>match Nat.decEq m yr with
  | .isTrue _=>.mk (qFV d i args se k)
  | .isFalse _=>.mk (qsa (some d) (.call (.f i) args) se [m] k)
 | [],op,dst=>Bool.rec (motive:=fun _=>K) (.mk (qsa dst op se [] k)) (qE3 dst op k) (qye op && (qv3 op || se))
 | no,op,dst=>.mk (qsa dst op se no k)
theorem qzH {dst:Option Nat} {op:OpK} {se:Bool} {no:List Nat} {k:K}:qqk (qwS dst op se no k).run op se no dst k:=by
 unfold qwS
 split
 ·exact qr0
 ·refine qxj ?_
  intro call n e H lo x h
  exact qjk h
 ·split
  ·rename_i hm _
   subst hm
   exact qy4
  ·exact qjk
 ·cases hb:(qye op && (qv3 op || se)) with
  | false=>exact qjk
  | true=>
   rw [qOy] at hb
   exact qwz hb.1 hb.2
 ·exact qjk
noncomputable def qtW (l:List (Op × Bool × List Nat)) (k:K):K:=List.rec (motive:=fun _=>K) k (fun p _ ih=>match p with
 | (⟨dst,op,none⟩,se,no)=>qwS dst op se no ih
 | (⟨dst,op,some (m,w)⟩,se,no)=>.mk fun call n e H lo=>orN (vG (fget m e)) fun r=>Option.rec (motive:=fun _=>R) (qiz dst (.tup []) ih call n e H lo) (fun z=>Bool.rec (motive:=fun _=>R) (qiz dst (.tup []) ih call n e H lo) ((qwS dst op se no ih).run call n e H lo) (eqB z w)) r) l
theorem qpl {pg:Pg} {call:Call} (hc:yU call (qh pg)) {n:Nat} {k:K}:∀(l:List (Op × Bool × List Nat)) {e:Env} {H:List Obj} {lo:Nat} {x:Ex × St},(qtW l k).run call n e H lo=some x->quP pg (qx (qh pg) l ⟨e,H,lo⟩) k call n x
 | [],e,H,lo,x,h=>.inl ⟨⟨e,H,lo⟩,rfl,h⟩
 | (⟨dst,op,g⟩,se,no)::l,e,H,lo,x,h=>by
  have key:wanted g e=some true->(qwS dst op se no (qtW l k)).run call n e H lo=some x->quP pg (qx (qh pg) ((⟨dst,op,g⟩,se,no)::l) ⟨e,H,lo⟩) k call n x:=by
   intro hw h
   obtain ⟨q,hq,⟨hp,hs,st,hst,hrun⟩|⟨hp,hm,hx⟩⟩:=qzH h
   rotate_left
   ·have hq':=qfg hc hq
    refine .inr ⟨?_,by rw [hx];exact nofun⟩
    simp only [qx,hw,hq',hp,Bool.true_or,cond_true,qza,hm,Bool.and_self,hx]
   have hq':=qfg hc hq
   simp only [qx,hw,hq',hp,hs,hst,Bool.not_true,Bool.or_self,cond_false]
   exact qpl hc l hrun
  have skip:wanted g e=some false->qiz dst (.tup []) (qtW l k) call n e H lo=some x->quP pg (qx (qh pg) ((⟨dst,op,g⟩,se,no)::l) ⟨e,H,lo⟩) k call n x:=by
   intro hw' h
   obtain ⟨q,hq,hq2⟩:=qjY (same:=true) h
   cases hq
   rcases hq2 with ⟨_,st,hst,hrun⟩|⟨hp,_⟩
   ·simp only [qx,hw']
    rw [hst]
    exact qpl hc l hrun
   ·cases hp
  cases g with
  | none=>exact key rfl h
  | some mw=>
   obtain ⟨m,w⟩:=mw
   have h:(orN (vG (fget m e)) fun r=>Option.rec (motive:=fun _=>R) (qiz dst (.tup []) (qtW l k) call n e H lo) (fun z=>Bool.rec (motive:=fun _=>R) (qiz dst (.tup []) (qtW l k) call n e H lo) ((qwS dst op se no (qtW l k)).run call n e H lo) (eqB z w)) r)=some x:=h
   obtain ⟨r,hr,h⟩:=kN h
   have hw:=qFm m w e
   rw [hr] at hw
   cases r with
   | none=>exact skip hw h
   | some z=>
    have hw:wanted (some (m,w)) e=some (z == w):=hw
    rw [<- qCU] at hw
    have h:Bool.rec (motive:=fun _=>R) (qiz dst (.tup []) (qtW l k) call n e H lo) ((qwS dst op se no (qtW l k)).run call n e H lo) (eqB z w)=some x:=h
    cases hb:eqB z w with
    | false=>rw [hb] at h hw;exact skip hw h
    | true=>rw [hb] at h hw;exact key hw h
noncomputable def qgy:K:=.mk fun _ _ e H lo=>some (.nrm,⟨e,H,lo⟩)
noncomputable def frest (live:List Nat) (e:Env) (κ:Env->R):R:=
 List.rec (motive:=fun _=>(Env->R)->R) (fun κ=>κ []) (fun n _ ih κ=>qAW (fget n e) fun v=>ih fun r=>κ ((n,v)::r)) live κ
theorem qow (live:List Nat) (e:Env) (κ:Env->R):frest live e κ=κ (restrict live e):=by
 induction live generalizing κ with
 | nil=>rfl
 | cons n l ih=>
  show qAW (fget n e) (fun v=>frest l e fun r=>κ ((n,v)::r))=_
  rw [qCi,ih,yG]
  rfl
noncomputable def onX (r:R) (fn:Env->List Obj->Nat->R) (fx:Nat->Env->List Obj->Nat->R):R:=
 Option.rec (motive:=fun _=>R) none (fun p=>Prod.rec (motive:=fun _=>R) (fun ex st=>St.rec (motive:=fun _=>R) (fun e H lo=>Ex.rec (motive:=fun _=>R) (fn e H lo) (fun j=>fx j e H lo) (some (.ret,⟨e,H,lo⟩)) (fun v=>some (.pan v,⟨e,H,lo⟩)) ex) st) p) r
noncomputable def qEX (id:Nat) (live:List Nat) (k:K) (call:Call) (n:Nat) (r:R):R:=
 onX r (fun e H lo=>frest live e fun e=>k.run call n e H lo) fun j e H lo=>Bool.rec (motive:=fun _=>R) (some (.exit j,⟨e,H,lo⟩)) (frest live e fun e=>k.run call n e H lo) (qOC j id)
noncomputable def qyt (live:List Nat) (a:K) (call:Call) (n:Nat):Env->List Obj->Nat->R:=
 Nat.rec (motive:=fun _=>Env->List Obj->Nat->R) (fun _ _ _=>none) (fun m ih e H lo=>frest live e fun e=>onX (a.run call m e H lo) ih fun j e H lo=>some (.exit j,⟨e,H,lo⟩)) n
noncomputable def qmY (c:C):K->K:=
 C.rec (motive:=fun _=>K->K) (fun k=>k) (fun l k=>qg8 l k) (fun l k=>qtW l k)
  (fun _ _ da db k=>da (db k)) (fun o _ _ da db k=>.mk fun call n e H lo=>asB ((kH o).run e) ((da k).run call n e H lo) ((db k).run call n e H lo))
  (fun id live _ da k=>.mk fun call n e H lo=>qEX id live k call n ((da qgy).run call n e H lo))
  (fun live _ da _=>.mk fun call n e H lo=>qyt live (da qgy) call n e H lo)
  (fun id _=>.mk fun _ _ e H lo=>some (.exit id,⟨e,H,lo⟩)) (fun _=>.mk fun _ _ e H lo=>some (.ret,⟨e,H,lo⟩)) (fun _=>.mk fun _ _ _ _ _=>none)
  (fun k l f p0 p1 live _ _ da db kk=>.mk fun call n e H lo=>match frd e f with
   | .fn k' [] [c]=>Bool.rec (motive:=fun _=>R) none (match qa0 c H lo with
    | some m=>zV (fun p k=>jE p.2 fun v=>k (p.1,v)) (jK live e) fun base=>ql m fun m=>match rounds (fun st=>(da qgy).run call n st.env st.H st.lo) (fun st=>(db qgy).run call n st.env st.H st.lo) l c p0 p1 base m H lo with
     | some (.nrm,⟨e,H,lo⟩)=>kk.run call n e H lo
     | r=>r
    | none=>none) (qOC k' k && c.ok)
   | _=>none)
  (fun k f live kk=>.mk fun call n e H lo=>match frd e f with
   | .fn k' [] cap=>Bool.rec (motive:=fun _=>R) none (match call k (.undef::cap) H with
    | some r=>Bool.rec (motive:=fun _=>R) (frest live e fun e=>qqs r.H fun H=>ql (min lo r.lo) fun lo=>kk.run call n e H lo) none r.pan
    | none=>none) (qOC k' k && V.ok.oks cap)
   | _=>none) c
theorem qoK {pg:Pg} {r:R} {call:Call} {n:Nat} {x:Ex × St} (h:quP pg r qgy call n x):r=some x:=by
 rcases h with ⟨s,h1,h2⟩|⟨h1,_⟩
 ·have h2:some (Ex.nrm,(⟨s.env,s.H,s.lo⟩:St))=some x:=h2
  cases h2
  exact h1
 ·exact h1
theorem ql3 {pg:Pg} {live:List Nat} {a:C} {st:St}:exL pg (.loop live a) st=(match exL pg a {st with env:=restrict live st.env} with|some (.nrm,st')=>exL pg (.loop live a) st'|r=>r):=by rw [ja];rfl
theorem qp6 {pg:Pg} {live:List Nat} {a:C} {da:K} {call:Call} (ih:∀(n:Nat) (e:Env) (H:List Obj) (lo:Nat) (x:Ex × St),da.run call n e H lo=some x->exL pg a ⟨e,H,lo⟩=some x) :
  ∀(n:Nat) {e:Env} {H:List Obj} {lo:Nat} {x:Ex × St},qyt live da call n e H lo=some x->exL pg (.loop live a) ⟨e,H,lo⟩=some x/\x.1≠.nrm
 | 0,e,H,lo,x,h=>by cases h
 | n+1,e,H,lo,x,h=>by
  have h:(frest live e fun e=>onX (da.run call n e H lo) (qyt live da call n) fun j e H lo=>some (.exit j,⟨e,H,lo⟩))=some x:=h
  rw [qow] at h
  rw [ql3]
  cases hq:da.run call n (restrict live e) H lo with
  | none=>rw [hq] at h;cases h
  | some y=>
   have hy:=ih n _ _ _ _ hq
   obtain ⟨ex,st⟩:=y
   rw [hq] at h
   show (match exL pg a ⟨restrict live e,H,lo⟩ with|some (.nrm,st')=>exL pg (.loop live a) st'|r=>r)=some x/\_
   rw [hy]
   cases ex with
   | nrm=>exact qp6 ih n h
   | exit id=>cases h;exact ⟨rfl,by simp⟩
   | ret=>cases h;exact ⟨rfl,by simp⟩
   | pan v=>cases h;exact ⟨rfl,by simp⟩
theorem jM {pg:Pg} {call:Call} (hc:yU call (qh pg)):∀(c:C) (k:K) (n:Nat) (e:Env) (H:List Obj) (lo:Nat) (x:Ex × St),(qmY c k).run call n e H lo=some x->quP pg (exL pg c ⟨e,H,lo⟩) k call n x
 | .skip,k,n,e,H,lo,x,h=>.inl ⟨⟨e,H,lo⟩,by rw [ja];rfl,h⟩
 | .ops l,k,n,e,H,lo,x,h=>by
  have:=qlu hc l h
  rwa [show exL pg (.ops l) ⟨e,H,lo⟩=qk (qh pg) l ⟨e,H,lo⟩ by rw [ja];rfl]
 | .opsD l,k,n,e,H,lo,x,h=>by
  have:=qpl hc l h
  rwa [show exL pg (.opsD l) ⟨e,H,lo⟩=qx (qh pg) l ⟨e,H,lo⟩ by rw [ja];rfl]
 | .seq a b,k,n,e,H,lo,x,h=>by
  have ha:=jM hc a (qmY b k) n e H lo x h
  rw [show exL pg (.seq a b) ⟨e,H,lo⟩=(match exL pg a ⟨e,H,lo⟩ with|some (.nrm,st')=>exL pg b st'|r=>r) by rw [ja];rfl]
  rcases ha with ⟨s,h1,h2⟩|⟨h1,h2⟩
  ·rw [h1]
   exact jM hc b k n s.env s.H s.lo x h2
  ·rw [h1]
   obtain ⟨ex,st⟩:=x
   cases ex with
   | nrm=>exact absurd rfl h2
   | _=>exact .inr ⟨rfl,h2⟩
 | .cond o a b,k,n,e,H,lo,x,h=>by
  have h:asB ((kH o).run e) ((qmY a k).run call n e H lo) ((qmY b k).run call n e H lo)=some x:=h
  rw [show exL pg (.cond o a b) ⟨e,H,lo⟩=(match rd e o with | .d (.b true)=>exL pg a ⟨e,H,lo⟩ | .d (.b false)=>exL pg b ⟨e,H,lo⟩|_=>none) by rw [ja];rfl]
  rcases qq0 h with ⟨hx,h⟩|⟨hx,h⟩
  ·have hx':rd e o=.d (.b true):=(ke (by rw [hx];trivial)).trans hx
   rw [hx'];exact jM hc a k n e H lo x h
  ·have hx':rd e o=.d (.b false):=(ke (by rw [hx];trivial)).trans hx
   rw [hx'];exact jM hc b k n e H lo x h
 | .block id live a,k,n,e,H,lo,x,h=>by
  have h:qEX id live k call n ((qmY a qgy).run call n e H lo)=some x:=h
  rw [show exL pg (.block id live a) ⟨e,H,lo⟩=(match exL pg a ⟨e,H,lo⟩ with
   | some (.nrm,st')=>some (.nrm,{st' with env:=restrict live st'.env})
   | some (.exit j,st')=>bif qOC j id then some (.nrm,{st' with env:=restrict live st'.env}) else some (.exit j,st')
   | r=>r) by rw [ja];rfl]
  cases hq:(qmY a qgy).run call n e H lo with
  | none=>rw [hq] at h;cases h
  | some y=>
   have hy:=qoK (jM hc a qgy n e H lo y hq)
   rw [hq] at h
   rw [hy]
   obtain ⟨ex,e',H',lo'⟩:=y
   cases ex with
   | nrm=>
    have h:(frest live e' fun e=>k.run call n e H' lo')=some x:=h
    rw [qow] at h
    exact .inl ⟨_,rfl,h⟩
   | exit j=>
    have h:Bool.rec (motive:=fun _=>R) (some (.exit j,⟨e',H',lo'⟩)) (frest live e' fun e=>k.run call n e H' lo') (qOC j id)=some x:=h
    cases hb:qOC j id with
    | true=>
     rw [hb] at h
     have h:(frest live e' fun e=>k.run call n e H' lo')=some x:=h
     rw [qow] at h
     exact .inl ⟨⟨restrict live e',H',lo'⟩,by simp only [hb,cond_true],h⟩
    | false=>
     rw [hb] at h
     have h:some (Ex.exit j,(⟨e',H',lo'⟩:St))=some x:=h
     cases h
     exact .inr ⟨by simp only [hb,cond_false],by simp⟩
   | ret=>cases h;exact .inr ⟨rfl,by simp⟩
   | pan v=>cases h;exact .inr ⟨rfl,by simp⟩
 | .loop live a,k,n,e,H,lo,x,h=>by
  have h:qyt live (qmY a qgy) call n e H lo=some x:=h
  exact .inr (qp6 (fun n e H lo x h=>qoK (jM hc a qgy n e H lo x h)) n h)
 | .exit id,k,n,e,H,lo,x,h=>by
  have h:some (Ex.exit id,(⟨e,H,lo⟩:St))=some x:=h
  cases h
  exact .inr ⟨by rw [ja];rfl,by simp⟩
 | .ret,k,n,e,H,lo,x,h=>by
  have h:some (Ex.ret,(⟨e,H,lo⟩:St))=some x:=h
  cases h
  exact .inr ⟨by rw [ja];rfl,by simp⟩
 | .stuck,k,n,e,H,lo,x,h=>by
  have h:none=some x:=h
  cases h
 | .rangeB k l f p0 p1 live a b,kk,n,e,H,lo,x,h=>by
  have h:(match frd e f with
   | .fn k' [] [c]=>Bool.rec (motive:=fun _=>R) none (match qa0 c H lo with
    | some m=>zV (fun (p:Nat × V) k=>jE p.2 fun v=>k (p.1,v)) (jK live e) fun base=>ql m fun m=>match rounds (fun st=>(qmY a qgy).run call n st.env st.H st.lo) (fun st=>(qmY b qgy).run call n st.env st.H st.lo) l c p0 p1 base m H lo with
     | some (.nrm,⟨e,H,lo⟩)=>kk.run call n e H lo
     | r=>r
    | none=>none) (qOC k' k && c.ok)
   | _=>none)=some x:=h
  rw [yT] at h
  rw [show exL pg (.rangeB k l f p0 p1 live a b) ⟨e,H,lo⟩=(match rd e f with
   | .fn k' [] [c]=>bif qOC k' k && c.ok then (match qa0 c H lo with
    | some n=>rounds (exL pg a) (exL pg b) l c p0 p1 (jK live e) n H lo
    | none=>none) else none
   | _=>none) by rw [ja];rfl]
  split at h
  ·rename_i k' c hf
   (try simp only [hf])
   cases hb:(qOC k' k && c.ok) with
   | false=>rw [hb] at h;cases h
   | true=>
    rw [hb] at h
    (try simp only [cond_true,hb])
    split at h
    ·rename_i m hm
     (try simp only [hm])
     rw [kn (fun p k=>zz p.2 fun v=>k (p.1,v)),kF] at h
     have le:∀y,rounds (fun st=>(qmY a qgy).run call n st.env st.H st.lo) (fun st=>(qmY b qgy).run call n st.env st.H st.lo) l c p0 p1 (jK live e) m H lo=some y->rounds (exL pg a) (exL pg b) l c p0 p1 (jK live e) m H lo=some y:=fun y hy=>
      qiT (fun st z hz=>qoK (jM hc a qgy n st.env st.H st.lo z hz)) (fun st z hz=>qoK (jM hc b qgy n st.env st.H st.lo z hz)) m hy
     cases hq:rounds (fun st=>(qmY a qgy).run call n st.env st.H st.lo) (fun st=>(qmY b qgy).run call n st.env st.H st.lo) l c p0 p1 (jK live e) m H lo with
     | none=>rw [hq] at h;cases h
     | some y=>
      rw [hq] at h
      rw [le y hq]
      obtain ⟨ex,e',H',lo'⟩:=y
      cases ex with
      | nrm=>exact .inl ⟨_,rfl,h⟩
      | exit id=>cases h;exact .inr ⟨rfl,by simp⟩
      | ret=>cases h;exact .inr ⟨rfl,by simp⟩
      | pan v=>cases h;exact .inr ⟨rfl,by simp⟩
    ·cases h
  ·cases h
 | .rangeZ k f live,kk,n,e,H,lo,x,h=>by
  have h:(match frd e f with
   | .fn k' [] cap=>Bool.rec (motive:=fun _=>R) none (match call k (.undef::cap) H with
    | some r=>Bool.rec (motive:=fun _=>R) (frest live e fun e=>qqs r.H fun H=>ql (min lo r.lo) fun lo=>kk.run call n e H lo) none r.pan
    | none=>none) (qOC k' k && V.ok.oks cap)
   | _=>none)=some x:=h
  rw [yT] at h
  split at h
  ·rename_i k' cap hf
   cases hb:(qOC k' k && V.ok.oks cap) with
   | false=>rw [hb] at h;cases h
   | true=>
    rw [hb] at h
    split at h
    ·rename_i r hr
     cases hp:r.pan with
     | true=>rw [hp] at h;cases h
     | false=>
      rw [hp] at h
      have h:(frest live e fun e=>qqs r.H fun H=>ql (min lo r.lo) fun lo=>kk.run call n e H lo)=some x:=h
      rw [qow,qsz,kF] at h
      refine .inl ⟨⟨restrict live e,r.H,min lo r.lo⟩,?_,h⟩
      rw [ja]
      have hr':=hc _ _ _ _ hr
      show step _ _ _ _=_
      simp only [step,hf,hb,cond_true,hr',hp,cond_false]
    ·cases h
  ·cases h
noncomputable def qBj (own:Bool) (v:V) (κ:V->Option Cr):Option Cr:=V.rec (motive_1:=fun _=>Option Cr) (motive_2:=fun _=>Option Cr) (fun x=>κ (.d x)) (fun xs=>Bool.rec (motive:=fun _=>Option Cr) (κ (.d (.sl xs))) (κ (.osl xs)) own) (fun xs=>κ (.fsl xs)) (fun a b=>κ (.ptr a b)) (fun a b=>κ (.lp a b)) (fun _ _=>none) (fun x=>κ (.cp x)) (fun a b c d=>κ (.rs a b c d)) (fun a b c=>κ (.row a b c)) (fun a=>κ (.map a)) (fun f a b _ _=>κ (.fn f a b)) (fun t x _=>κ (.ifc t x)) (fun cs _=>Bool.rec (motive:=fun _=>Option Cr) (qdp (qfh (cs.map zy)) κ) (κ (.agg cs)) own) (fun vs _=>κ (.tup vs)) (κ .undef) none (fun _ _ _ _=>none) v
theorem qEy (own:Bool) (v:V) (κ:V->Option Cr):qBj own v κ=(match (match v with | .box _=>none|v=>some (bif own then v else copy v)) with|some v=>κ v|none=>none):=by
 cases v with
 | agg cs=>cases own with
  | true=>rfl
  | false=>exact qcw _ _
 | _=>cases own<;>rfl
inductive KX where
 | mk (f:Env->List Obj->Nat->(List V->Option Cr)->Option Cr)
noncomputable def KX.run (k:KX):Env->List Obj->Nat->(List V->Option Cr)->Option Cr:=KX.rec (motive:=fun _=>Env->List Obj->Nat->(List V->Option Cr)->Option Cr) (fun f=>f) k
noncomputable def qMi (own:Bool) (r:Rv) (ih:KX):KX:=
 Rv.rec (motive:=fun _=>KX) (fun n=>.mk fun e H lo κ=>qBj own (fget n e) fun v=>ih.run e H lo fun vs=>κ (v::vs))
  (fun n l=>.mk fun e H lo κ=>match yJ own ⟨e,H,lo⟩ (.cell n l) with|some v=>qdp v fun v=>ih.run e H lo fun vs=>κ (v::vs)|none=>none) r
noncomputable def qzZ (own:Bool) (l:List Rv):KX:=List.rec (motive:=fun _=>KX) (.mk fun _ _ _ κ=>κ []) (fun r _ ih=>qMi own r ih) l
theorem qEq (own:Bool) (l:List Rv) (e:Env) (H:List Obj) (lo:Nat) (κ:List V->Option Cr):(qzZ own l).run e H lo κ=(match qM own ⟨e,H,lo⟩ l with|some vs=>κ vs|none=>none):=by
 induction l generalizing κ with
 | nil=>rfl
 | cons r l ih=>
  show (qMi own r (qzZ own l)).run e H lo κ=_
  simp only [qM]
  cases r with
  | t n=>
   show qBj own (fget n e) (fun v=>(qzZ own l).run e H lo fun vs=>κ (v::vs))=_
   rw [qEy,yG]
   simp only [ih,yJ]
   cases hv:get n e<;>first|rfl|(simp only [];cases qM own ⟨e,H,lo⟩ l<;>rfl)
  | cell n l'=>
   show (match yJ own ⟨e,H,lo⟩ (.cell n l') with|some v=>qdp v fun v=>(qzZ own l).run e H lo fun vs=>κ (v::vs)|none=>none)=_
   cases yJ own ⟨e,H,lo⟩ (.cell n l') with
   | none=>rfl
   | some v=>
    simp only [qcw,ih]
    cases qM own ⟨e,H,lo⟩ l<;>rfl
noncomputable def qGZ (v:V):Nat:=V.rec (motive_1:=fun _=>Nat) (motive_2:=fun _=>Nat) (fun _=>0) (fun _=>0) (fun _=>0) (fun a _=>Nat.succ a) (fun _ _=>0) (fun cs _=>V.ref (.box cs)) (fun _=>0) (fun a _ _ _=>Nat.succ a) (fun a _ _=>Nat.succ a) (fun a=>Nat.succ a) (fun f a b _ _=>V.ref (.fn f a b)) (fun t x _=>V.ref (.ifc t x)) (fun cs _=>V.ref (.agg cs)) (fun vs _=>V.ref (.tup vs)) 0 0 (fun _ _ _ _=>0) v
theorem qEI (v:V):qGZ v=v.ref:=by cases v<;>rfl
noncomputable def qMx (v:V):Bool:=V.rec (motive_1:=fun _=>Bool) (motive_2:=fun _=>Bool) (fun _=>false) (fun _=>false) (fun _=>false) (fun _ _=>false) (fun _ _=>false) (fun _ _=>false) (fun _=>false) (fun _ _ _ _=>true) (fun _ _ _=>false) (fun _=>false) (fun _ _ _ _ _=>false) (fun _ _ _=>false) (fun _ _=>false) (fun _ _=>false) false false (fun _ _ _ _=>false) v
noncomputable def qtq (H:List Obj) (v:V) (H':List Obj) (lo:Nat):Option Cr:=
 Bool.rec (motive:=fun _=>Option Cr)
  (Bool.rec (motive:=fun _=>Option Cr) none
   (Bool.rec (motive:=fun _=>Option Cr) (some ⟨false,false,v,H',lo⟩) (Bool.rec (motive:=fun _=>Option Cr) (some ⟨false,false,v,H',lo⟩) (some ⟨false,true,v,H,lo⟩) (Nat.ble (z0 H) lo)) (Nat.ble (qGZ v) (z0 H))) (lvF v))
  (match leave H false v ⟨[],H',lo⟩ with|some ⟨pan,same,v,H,lo⟩=>qdp v fun v=>some (Cr.mk pan same v H lo)|none=>none) (qMx v)
theorem qAf (H:List Obj) (pan:Bool) (v:V) (e e':Env) (H':List Obj) (lo:Nat):leave H pan v ⟨e,H',lo⟩=leave H pan v ⟨e',H',lo⟩:=rfl
theorem qAi (H:List Obj) (v:V) (e:Env) (H':List Obj) (lo:Nat):qtq H v H' lo=leave H false v ⟨e,H',lo⟩:=by
 unfold qtq
 cases hr:qMx v with
 | true=>
  show (match leave H false v ⟨[],H',lo⟩ with|some ⟨pan,same,v,H,lo⟩=>qdp v fun v=>some (Cr.mk pan same v H lo)|none=>none)=_
  rw [qAf H false v [] e]
  cases leave H false v ⟨e,H',lo⟩ with
  | none=>rfl
  | some r=>obtain ⟨a,b,c,d,f⟩:=r;exact qcw _ _
 | false=>
  show Bool.rec (motive:=fun _=>Option Cr) none (Bool.rec (motive:=fun _=>Option Cr) (some ⟨false,false,v,H',lo⟩) (Bool.rec (motive:=fun _=>Option Cr) (some ⟨false,false,v,H',lo⟩) (some ⟨false,true,v,H,lo⟩) (Nat.ble (z0 H) lo)) (Nat.ble (qGZ v) (z0 H))) (lvF v)=_
  have hs:settle H.length H' v=v:=by cases v<;>first|rfl|cases hr
  unfold leave
  simp only [hs,qA8,qEI,kc]
  cases v.leaves with
  | false=>rfl
  | true=>
   cases Nat.ble v.ref H.length with
   | false=>rfl
   | true=>cases Nat.ble H.length lo<;>rfl
noncomputable def qKC (vs:List V) (κ:V->Option Cr):Option Cr:=List.rec (motive:=fun _=>Option Cr) (κ (.tup [])) (fun v t _=>List.rec (motive:=fun _=>Option Cr) (κ v) (fun w u _=>κ (.tup (v::w::u))) t) vs
theorem qDh (vs:List V) (κ:V->Option Cr):qKC vs κ=κ (qlN vs):=by
 cases vs with
 | nil=>rfl
 | cons v t=>cases t<;>rfl
noncomputable def qCW (fn:Fn) (H:List Obj) (st:St):Option Cr:=St.rec (motive:=fun _=>Option Cr) (fun e H' lo=>(qzZ fn.own fn.res).run e H' lo fun vs=>qKC vs fun v=>qtq H v H' lo) st
theorem qyx (fn:Fn) (H:List Obj) (st:St):qCW fn H st=zL fn H st:=by
 obtain ⟨e,H',lo⟩:=st
 show ((qzZ fn.own fn.res).run e H' lo fun vs=>qKC vs fun v=>qtq H v H' lo)=_
 rw [qEq]
 unfold zL
 cases qM fn.own ⟨e,H',lo⟩ fn.res with
 | none=>rfl
 | some vs=>simp only [qDh];exact qAi H _ e H' lo
noncomputable def qB9 (fn:Fn):K:=qmY fn.body qgy
noncomputable def exJ (call:Call) (n:Nat):C->St->Option (Ex × St):=fun c st=>(qmY c qgy).run call n st.env st.H st.lo
noncomputable def qDu (pg:Pg) (call:Call) (n:Nat) (H:List Obj) (fn:Fn) (r:R):Option Cr:=
 Option.rec (motive:=fun _=>Option Cr) none (fun p=>Prod.rec (motive:=fun _=>Option Cr) (fun ex st=>Ex.rec (motive:=fun _=>Option Cr)
  (Option.rec (motive:=fun _=>Option Cr) (qCW fn H st) (fun q=>deferred pg (exJ call n) fn H q.1 q.2 st) fn.dfr) (fun _=>none) (qCW fn H st) (fun v=>leave H true v st) ex) p) r
def isNone {α:Type}:Option α->Bool
 | none=>true
 | some _=>false
theorem qzm {α:Type} {o:Option α} (h:isNone o=true):o=none:=by cases o<;>first|rfl|cases h
noncomputable def qD1 (vs:List V):Nat->(Env->Option Cr)->Option Cr:=List.rec (motive:=fun _=>Nat->(Env->Option Cr)->Option Cr) (fun _ κ=>κ []) (fun v _ ih m κ=>ih (Nat.succ m) fun r=>κ ((m,v)::r)) vs
theorem qD3 (vs:List V) (m:Nat) (κ:Env->Option Cr):qD1 vs m κ=κ (kf m vs):=by
 induction vs generalizing m κ with
 | nil=>rfl
 | cons v vs ih=>exact ih _ _
noncomputable def ji (pg:Pg) (n:Nat):Call:=
 Nat.rec (motive:=fun _=>Call) (fun _ _ _=>none) (fun m ih f vs H=>Option.rec (motive:=fun _=>Option Cr) (pg.ext f vs H)
  (fun fn=>Bool.rec (motive:=fun _=>Option Cr) none (Bool.rec (motive:=fun _=>Option Cr) none (qD1 vs 0 fun e=>ql (z0 H) fun hl=>qDu pg ih m H fn ((qB9 fn).run ih m e H hl)) (qOC fn.np (z0 vs))) (isNone fn.rcv)) (pg.fn f)) n
theorem qrt {pg:Pg} {call:Call} (hc:yU call (qh pg)) (n:Nat):qrQ (exJ call n) (exL pg):=fun c st x h=>qoK (jM hc c qgy n st.env st.H st.lo x h)
theorem qde (pg:Pg):∀n,yU (ji pg n) (qh pg)
 | 0=>fun i vs H r h=>by cases h
 | n+1=>fun i vs H r h=>by
  have h:Option.rec (motive:=fun _=>Option Cr) (pg.ext i vs H)
   (fun fn=>Bool.rec (motive:=fun _=>Option Cr) none (Bool.rec (motive:=fun _=>Option Cr) none (qD1 vs 0 fun e=>ql (z0 H) fun hl=>qDu pg (ji pg n) n H fn ((qB9 fn).run (ji pg n) n e H hl)) (qOC fn.np (z0 vs))) (isNone fn.rcv)) (pg.fn i)=some r:=h
  rw [qib]
  unfold qm
  cases hf:pg.fn i with
  | none=>rw [hf] at h;exact h
  | some fn=>
   rw [hf] at h
   have h:Bool.rec (motive:=fun _=>Option Cr) none (Bool.rec (motive:=fun _=>Option Cr) none (qD1 vs 0 fun e=>ql (z0 H) fun hl=>qDu pg (ji pg n) n H fn ((qB9 fn).run (ji pg n) n e H hl)) (qOC fn.np (z0 vs))) (isNone fn.rcv)=some r:=h
   rw [qD3,kF,kc,kc] at h
   cases hb1:isNone fn.rcv with
   | false=>rw [hb1] at h;cases h
   | true=>
    rw [hb1] at h
    cases hb:qOC fn.np vs.length with
    | false=>rw [hb] at h;cases h
    | true=>
     rw [hb] at h
     have h:qDu pg (ji pg n) n H fn ((qB9 fn).run (ji pg n) n (kf 0 vs) H H.length)=some r:=h
     have hcond:fn.np=vs.length/\fn.rcv=none:=⟨qOz hb,qzm hb1⟩
     simp only [if_pos hcond]
     cases hq:(qB9 fn).run (ji pg n) n (kf 0 vs) H H.length with
     | none=>rw [hq] at h;cases h
     | some y=>
      have hy:=qoK (jM (qde pg n) fn.body qgy n _ _ _ _ hq)
      rw [hq] at h
      rw [hy]
      obtain ⟨ex,st⟩:=y
      cases ex with
      | nrm=>
       have h:Option.rec (motive:=fun _=>Option Cr) (qCW fn H st) (fun q=>deferred pg (exJ (ji pg n) n) fn H q.1 q.2 st) fn.dfr=some r:=h
       show (match fn.dfr with
        | none=>zL fn H st
        | some (t,rest)=>deferred pg (exL pg) fn H t rest st)=some r
       cases hd:fn.dfr with
       | none=>rw [hd,qyx] at h;exact h
       | some q=>
        obtain ⟨t,rest⟩:=q
        rw [hd] at h
        exact qkP (qrt (qde pg n) n) h
      | exit id=>cases h
      | ret=>
       have h:qCW fn H st=some r:=h
       rw [qyx] at h;exact h
      | pan v=>exact h
theorem qsG {pg:Pg} {n f:Nat} {vs:List V} {H:List Obj} {r:Cr} (h:ji pg n f vs H=some r):qh pg f vs H=some r:=qde pg n _ _ _ _ h
end W
/-
  What the kernel works out of a call on closed data, as a fact about the call.
-/
namespace W
open Go (IntKind BinOp UnOp)
def qoI:List V->List D->Bool
 | [],[]=>true
 | .d x::l,y::r=>eqD x y && qoI l r
 | _,_=>false
theorem qtD:∀{l:List V} {r:List D},qoI l r=true->l=r.map .d
 | [],[],_=>rfl
 | v::l,y::r,h=>by
  cases v with
  | d x=>
   simp only [qoI,qOy] at h
   rw [qm8 h.1,qtD h.2];rfl
  | _=>cases h
 | [],_::_,h=>by simp [qoI] at h
 | v::_,[],h=>by cases v<;>simp [qoI] at h
def isD (r:Option Cr) (x:D):Bool:=match r with
 | some ⟨false,true,.d y,_,_⟩=>eqD y x
 | _=>false
def qCG (r:Option Cr) (x:List D):Bool:=match r with
 | some ⟨false,true,.tup y,_,_⟩=>qoI y x
 | _=>false
theorem qsC {pg:Pg} (hx:qu pg.ext) {f:Nat} {vs:List V} {H H':List Obj} {v:V} {lo:Nat} (h:qh pg f vs H=some ⟨false,true,v,H',lo⟩):qh pg f vs H=some ⟨false,true,v,H,lo⟩:=by
 obtain ⟨n,hn⟩:=je.1 h
 have hlo:=(ye hx (qav hx n) _ _ _ _ hn).2.2 rfl
 simp only at hlo
 rw [hlo] at h
 exact h
theorem qB0 {pg:Pg} (hx:qu pg.ext) {N f:Nat} {vs:List V} {H:List Obj} {x:D} (h:isD (ji pg N f vs H) x=true):∃lo,qh pg f vs H=some ⟨false,true,.d x,H,lo⟩:=by
 unfold isD at h
 split at h
 ·rename_i y H' lo hr
  rw [qm8 h] at hr
  exact ⟨lo,qsC hx (qsG hr)⟩
 ·cases h
theorem qxp {pg:Pg} (hx:qu pg.ext) {N f:Nat} {vs:List V} {H:List Obj} {x:List D} (h:qCG (ji pg N f vs H) x=true):∃lo,qh pg f vs H=some ⟨false,true,.tup (x.map .d),H,lo⟩:=by
 unfold qCG at h
 split at h
 ·rename_i y H' lo hr
  rw [qtD h] at hr
  exact ⟨lo,qsC hx (qsG hr)⟩
 ·cases h
end W
/- A call of no arguments whose result is data is the same beside whatever objects there are. -/
namespace W
open Go (World Value Addr IntKind Program TypeId FuncId)
end W
/- Calls whose arguments and results are data, known beforehand (by the kernel), stand in for the functions' code. -/
namespace W
open Go (World Value Addr IntKind Program TypeId FuncId)
inductive Out where
 | one (x:D)
 | tup (l:List D)
def Out.v:Out->V
 | .one x=>.d x
 | .tup l=>.tup (l.map .d)
structure Ent where
 f:Nat
 a:List D
 r:Out
def pick (i:Nat) (vs:List V):List Ent->Option Ent
 | []=>none
 | e::T=>bif qOC e.f i && qoI vs e.a then some e else pick i vs T
def qtx (T:List Ent) (i:Nat) (vs:List V) (H:List Obj):Option Cr:=match pick i vs T with
 | some e=>some ⟨false,true,e.r.v,H,H.length⟩
 | none=>none
def Ent.is (r:Option Cr):Out->Bool
 | .one x=>isD r x
 | .tup l=>qCG r l
def Ent.Ok (pg:Pg) (e:Ent):Prop:=∃lo,qh pg e.f (e.a.map .d) []=some ⟨false,true,e.r.v,[],lo⟩
theorem qqY {pg:Pg} (hx:qu pg.ext) {N f:Nat} {l:List D} {r:Out} (h:Ent.is (ji pg N f (l.map .d) []) r=true):Ent.Ok pg ⟨f,l,r⟩:=by
 cases r with
 | one x=>exact qB0 hx h
 | tup l=>exact qxp hx h
theorem qrY {i:Nat} {vs:List V} {e:Ent}:∀{T:List Ent},pick i vs T=some e->e ∈ T/\e.f=i/\vs=e.a.map .d
 | [],h=>by cases h
 | q::T,h=>by
  unfold pick at h
  rw [qOx] at h
  split at h
  ·rename_i hb
   cases h
   simp only [qOy] at hb
   exact ⟨.head _,qOz hb.1,qtD hb.2⟩
  ·obtain ⟨h1,h2⟩:=qrY h
   exact ⟨.tail _ h1,h2⟩
theorem qtB {T:List Ent}:qu (qtx T):=fun i vs H r h=>by
 unfold qtx at h
 split at h
 ·cases h
  exact ⟨qOB _,fun _ _ _=>rfl,fun _=>rfl⟩
 ·cases h
theorem qFp {M:Maps} {g g':Gh} {w w':World} (e:g'.pub=g.pub) (ew:w'=w):∀{l:List D} {vs:List Value},RepSL M g w (l.map .d) vs->RepSL M g' w' (l.map .d) vs
 | [],_,h=>by cases h;exact .nil
 | x::l,_,h=>by
  rw [List.map_cons] at h |-
  cases h with
  | cons _ _ _ _ h0 h=>
   refine .cons _ _ _ _ ?_ (qFp e ew h)
   cases h0 with
   | d _ _ hr=>exact .d _ _ (by rw [e,ew];exact hr)
theorem qyg {P:Program} {M:Maps} {pg:Pg} (hsim:∀n,qn P M (kA pg n)) {e:Ent} (h:e.Ok pg)
  {f':FuncId} (hl:look M.fm f'=some e.f) {g:Gh} {w:World} {H:List Obj} (hH:RelH M g w H) {argv:List Value} (ha:ArgsRep M g w 0 (e.a.map .d) argv):qtZ P f' argv.toArray w (qG M g w ⟨false,true,e.r.v,H,H.length⟩):=by
 obtain ⟨lo,h⟩:=h
 obtain ⟨n,hn⟩:=je.1 h
 refine qqg (hsim n) hn rfl (fun {g1 g2 w' c} ep hA=>?_) hl hH ha
 revert hA
 cases e.r with
 | one x=>
  intro hA
  cases hA with
  | s hA=>cases hA with
   | d _ _ hr=>exact .s (.d _ _ (by rw [ep];exact hr))
 | tup l=>
  intro hA
  cases hA with
  | s hA=>cases hA with
   | tup _ _ hr=>exact .s (.tup _ _ (qFp ep rfl hr))
theorem qop {P:Program} {M:Maps} {T:List Ent} (hT:∀e ∈ T,∃pg,(∀n,qn P M (kA pg n))/\e.Ok pg):qn P M (qtx T):=by
 intro i vs H r h f' hl g w argv ha hH
 unfold qtx at h
 split at h
 ·rename_i e he
  cases h
  obtain ⟨h1,rfl,rfl⟩:=qrY he
  obtain ⟨pg,hsim,hok⟩:=hT e h1
  exact qyg hsim hok hl hH ha
 ·cases h
end W
namespace W
set_option maxRecDepth 100000
def ixN (c:Nat):List Nat->Int
 | []=>-1
 | x::l=>bif qOC x c then 0 else match ixN c l with
  | .ofNat n=>.ofNat (n+1)
  | v=>v
def ixX (vs:List V) (H:List Obj):Option Cr:=
 match vs with
 | [.d (.s t),.d (.i .u8 (.ofNat c))]=>some ⟨false,true,.d (.i .i64 (ixN (c % 256) t)),H,H.length⟩
 | _=>none
def pg:Pg:=⟨fun n=>bif qOC n 296 then none else prog n,fun i vs H=>bif qOC i 296 then ixX vs H else none⟩
theorem qKy:qu fun _ vs H=>ixX vs H:=fun i vs H r h=>by
 simp only [ixX] at h
 split at h
 ·cases h
  exact ⟨qOB _,fun _ _ _=>rfl,fun _=>rfl⟩
 ·cases h
theorem qt4:qu pg.ext:=fun i vs H r h=>by
 simp only [pg,qOx] at h
 split at h
 ·exact qKy i vs H r h
 ·cases h
end W
/-
  More equations: nil slices, shifts, bits, bytes.
-/
namespace W
open Go (IntKind BinOp UnOp)
theorem qB2 {n:Nat}:isC (.t n)=false:=(rfl)
theorem qA7 {x:D}:isC (.c x)=true:=(rfl)
def qyE (s:Nat) (v:V):V:=match v with | .lp t o=>bif qOC t s then .undef else .lp t o|v=>v
theorem qxC {s:Nat}:qbt s []=[]:=(rfl)
theorem qvR {s n:Nat} {v:V} {e:Env}:qbt s ((n,v)::e)=(n,qyE s v)::qbt s e:=(rfl)
theorem qyD {s:Nat} {x:D}:qyE s (.d x)=.d x:=(rfl)
theorem qy6 {s i o:Nat}:qyE s (.ptr i o)=.ptr i o:=(rfl)
theorem qpv {s:Nat}:qyE s .undef=.undef:=(rfl)
theorem qtv {cs vs:List V} (h:(vs.length=cs.length)=True):kr cs 0 vs=some vs:=by
 have h:vs.length=cs.length:=by rw [h];trivial
 simp [kr,h]
def qFQ (l:L) (st:St):V->Option V
 | .box cs=>V.part 0 l cs
 | .ptr id off=>qF l st (.ptr id off)
 | _=>none
theorem qn3 {own:Bool} {st:St} {n:Nat} {l:L}:yJ own st (.cell n l)=qFQ l st (get n st.env):=by
 simp only [yJ,qFQ]
 cases get n st.env<;>rfl
theorem qwd {l:L} {st:St} {cs:List V}:qFQ l st (.box cs)=qwR l 0 (.box cs):=(rfl)
theorem qsp {i o:Nat}:qiA (.ptr i o)=.ptr i o:=(rfl)
def e8 (n:Nat):D:=.i .u8 (n:Int)
end W
/- Walking on: interfaces, panics, function values, deferred closures. -/
namespace W
open Go (IntKind BinOp UnOp)
variable {pg:Pg} {st:St} {call:Call}
end W
/-
  Walking of rows that may be written.
-/
namespace W
open Go (IntKind BinOp UnOp)
section
variable {call:Call} {st:St}
end
end W
/- Small functions of the scanners and parsers whose results are told at once. -/
namespace W
open Go (IntKind BinOp UnOp)
set_option maxRecDepth 20000
set_option linter.defProp false in
def qoa:=(And.intro (And.intro (And.intro (And.intro (And.intro @qyz (And.intro @qec @qoM)) (And.intro @qtN (And.intro @qwu @qtS))) (And.intro (And.intro @qHu (And.intro @qqq @qrv)) (And.intro (And.intro @qnl @qEu) (And.intro @qnh @qtF)))) (And.intro (And.intro (And.intro @qt3 (And.intro @qqJ @qpk)) (And.intro (And.intro @qyI @qtk) (And.intro @qCn @qmQ))) (And.intro (And.intro @qsK (And.intro @qxe @qlJ)) (And.intro (And.intro @qtJ @qmZ) (And.intro @qqV @qtT))))) (And.intro (And.intro (And.intro (And.intro @qFc (And.intro @qph @quc)) (And.intro @quO (And.intro @qB2 @qsU))) (And.intro (And.intro @qqF (And.intro @qoT @qjr)) (And.intro (And.intro @qta @qhw) (And.intro @qI6 @qA7)))) (And.intro (And.intro (And.intro @qvV (And.intro @qqb @qru)) (And.intro (And.intro @qpj @qCZ) (And.intro @qhC @qtM))) (And.intro (And.intro @qjK (And.intro @qnp @qt6)) (And.intro (And.intro @qre @qhO) (And.intro @qjv @qmS))))))
noncomputable def qxI (H:List Obj) (b:Bool):Option Cr:=Bool.rec (motive:=fun _=>Option Cr) (some ⟨false,true,.d (.b false),H,H.length⟩) (some ⟨false,true,.d (.b true),H,H.length⟩) b
theorem qoA {H:List Obj} {b:Bool} {r:Cr} (h:qxI H b=some r):r=⟨false,true,.d (.b b),H,H.length⟩:=by cases b<;>exact (Option.some.inj h).symm
theorem qDp {l:List Nat} {n:Nat} (h:n<=l.length):qhm (.d (.s l)) none (some (n:Int))=some (.d (.s (l.take n))):=by
 rw [qvy (by simp) (by simp) (by simp;omega)]
 simp
theorem qEx {l:List Nat} {n:Nat} (h:n<=l.length):qhm (.d (.s l)) (some (n:Int)) none=some (.d (.s (l.drop n))):=by
 rw [qvy (by simp) (by simp;omega) (by simp)]
 simp
theorem qws {a b:List Nat}:qo1 a b=decide (a=b):=by rw [qp1,qCx]
theorem qlq {a b:Nat}:qOC a b=decide (a=b):=by rw [Bool.eq_iff_iff,Nat.beq_eq];simp
noncomputable def byF (vs:List V):Option Nat:=
 match vs with
 | [v]=>(match vI v with
  | .yes k (.ofNat n)=>bif qOC (kcode k) 4 then some n else none
  | _=>none)
 | _=>none
theorem qAv {vs:List V} {n:Nat} (h:byF vs=some n):vs=[.d (.i .u8 (n:Int))]:=by
 unfold byF at h
 split at h
 ·rename_i v
  split at h
  ·rename_i k m hv
   rw [qOx] at h
   split at h
   ·rename_i hk
    cases h
    rw [qf1 hv]
    cases k<;>first|rfl|cases hk
   ·cases h
  ·cases h
 ·cases h
noncomputable def inR (a b c:Nat):Bool:=Bool.rec (motive:=fun _=>Bool) false (Nat.ble c b) (Nat.ble a c)
theorem qqH {a b c:Nat}:inR a b c=(decide (a<=c) && decide (c<=b)):=by
 have h1:∀x y:Nat,Nat.ble x y=decide (x<=y):=fun x y=>by rw [Bool.eq_iff_iff,Nat.ble_eq];simp
 unfold inR
 rw [h1,h1]
 by_cases h:a<=c<;>simp [h]
noncomputable def orF (a b:Bool):Bool:=Bool.rec (motive:=fun _=>Bool) b true a
theorem qmW {a b:Bool}:orF a b=(a || b):=by cases a<;>rfl
noncomputable def cLt (c:Nat):Bool:=orF (inR 97 122 c) (inR 65 90 c)
noncomputable def cDg (c:Nat):Bool:=inR 48 57 c
noncomputable def cBl (c:Nat):Bool:=orF (orF (qOC c 9) (qOC c 10)) (orF (qOC c 13) (qOC c 32))
noncomputable def byX (f:Nat->Bool) (vs:List V) (H:List Obj):Option Cr:=Option.rec (motive:=fun _=>Option Cr) none (fun c=>qxI H (f c)) (byF vs)
theorem qlp {f:Nat->Bool} {vs:List V} {H:List Obj} {r:Cr} (h:byX f vs H=some r):∃c:Nat,vs=[.d (.i .u8 (c:Int))]/\r=⟨false,true,.d (.b (f c)),H,H.length⟩:=by
 unfold byX at h
 cases hb:byF vs with
 | none=>rw [hb] at h;cases h
 | some c=>rw [hb] at h;exact ⟨c,qAv hb,qoA h⟩
theorem qpr {c:Nat} {H:List Obj}:qh pg 104 [.d (.i .u8 c)] H=some ⟨false,true,.d (.b (cLt c)),H,H.length⟩:=by
 rw [kZ (fn:=qas) rfl rfl,cLt,qmW,qqH,qqH]
 have e1:((97:Int)<=(c:Int))=(97<=c):=by rw [eq_iff_iff];omega
 have e2:((c:Int)<=122)=(c<=122):=by rw [eq_iff_iff];omega
 have e3:((65:Int)<=(c:Int))=(65<=c):=by rw [eq_iff_iff];omega
 have e4:((c:Int)<=90)=(c<=90):=by rw [eq_iff_iff];omega
 by_cases h1:97<=c<;>by_cases h2:c<=122<;>by_cases h3:65<=c<;>by_cases h4:c<=90
 all_goals simp only [qoa,qas,Nat.zero_add,reduceCtorEq,Bool.or_true,e1,h1,decide_true,↓reduceIte,Nat.reduceEqDiff,e2,h2,Bool.not_true,qOF,qyy,kg,Bool.and_self,h3,h4,Bool.or_self,decide_false,Bool.and_false,Bool.or_false,Bool.and_true,Bool.not_false,e3,e4]
 all_goals rfl
theorem quh {c:Nat} {H:List Obj}:qh pg 76 [.d (.i .u8 c)] H=some ⟨false,true,.d (.b (cLt c)),H,H.length⟩:=by
 rw [kZ (fn:=zk) rfl rfl,cLt,qmW,qqH,qqH]
 have e1:((97:Int)<=(c:Int))=(97<=c):=by rw [eq_iff_iff];omega
 have e2:((c:Int)<=122)=(c<=122):=by rw [eq_iff_iff];omega
 have e3:((65:Int)<=(c:Int))=(65<=c):=by rw [eq_iff_iff];omega
 have e4:((c:Int)<=90)=(c<=90):=by rw [eq_iff_iff];omega
 by_cases h1:97<=c<;>by_cases h2:c<=122<;>by_cases h3:65<=c<;>by_cases h4:c<=90
 all_goals simp only [qoa,zk,Nat.zero_add,reduceCtorEq,Bool.or_true,e1,h1,decide_true,↓reduceIte,Nat.reduceEqDiff,e2,h2,Bool.not_true,qOF,qyy,kg,Bool.and_self,h3,h4,Bool.or_self,decide_false,Bool.and_false,Bool.or_false,Bool.and_true,Bool.not_false,e3,e4]
 all_goals rfl
theorem qp8 {c:Nat} {H:List Obj}:qh pg 106 [.d (.i .u8 c)] H=some ⟨false,true,.d (.b (cDg c)),H,H.length⟩:=by
 rw [kZ (fn:=qa8) rfl rfl,cDg,qqH]
 have e1:((48:Int)<=(c:Int))=(48<=c):=by rw [eq_iff_iff];omega
 have e2:((c:Int)<=57)=(c<=57):=by rw [eq_iff_iff];omega
 by_cases h1:48<=c<;>by_cases h2:c<=57
 all_goals simp only [qoa,qa8,Nat.zero_add,reduceCtorEq,Bool.or_true,e1,h1,decide_true,↓reduceIte,Nat.reduceEqDiff,e2,h2,kg,Bool.and_self,decide_false,Bool.and_false,qOF,Bool.and_true]
 all_goals rfl
noncomputable def cNm (c:Nat):Bool:=orF (cLt c) (cDg c)
theorem qxk {c:Nat} {H:List Obj}:qh pg 172 [.d (.i .u8 c)] H=some ⟨false,true,.d (.b (cNm c)),H,H.length⟩:=by
 rw [kZ (fn:=qa7) rfl rfl,cNm,qmW]
 have hl:=qpr (c:=c) (H:=H)
 have hd:=qp8 (c:=c) (H:=H)
 cases hq:cDg c<;>rw [hq] at hd<;>cases hr:cLt c<;>rw [hr] at hl
 all_goals simp only [qoa,qa7,Nat.zero_add,reduceCtorEq,List.map_cons,List.map_nil,Bool.and_self,hl,Nat.min_self,Bool.not_false,↓reduceIte,Nat.reduceEqDiff,hd,qOF,kg,Bool.or_self,Bool.not_true,Bool.or_false,Bool.or_true]
 all_goals rfl
theorem qwO {c:Nat} {H:List Obj}:qh pg 75 [.d (.i .u8 c)] H=some ⟨false,true,.d (.b (cBl c)),H,H.length⟩:=by
 rw [kZ (fn:=zD) rfl rfl,cBl,qmW,qmW,qmW,qlq,qlq,qlq,qlq]
 have e1:((c:Int)=9)=(c=9):=by rw [eq_iff_iff];omega
 have e2:((c:Int)=10)=(c=10):=by rw [eq_iff_iff];omega
 have e3:((c:Int)=13)=(c=13):=by rw [eq_iff_iff];omega
 have e4:((c:Int)=32)=(c=32):=by rw [eq_iff_iff];omega
 by_cases h1:c=9<;>by_cases h2:c=10<;>by_cases h3:c=13<;>by_cases h4:c=32
 all_goals simp only [qoa,zD,h1,Int.cast_ofNat_Int,Nat.zero_add,reduceCtorEq,Bool.or_true,qtG,decide_true,Bool.not_true,qOF,↓reduceIte,Nat.reduceEqDiff,kg,decide_false,Bool.or_false,Bool.or_self,h2,Int.reduceEq,Bool.not_false,h3,h4,e1,e2,e3,e4]
 all_goals rfl
noncomputable def qyU (t:List Nat):List Nat->Bool:=List.rec (motive:=fun _=>List Nat->Bool) (fun _=>true) (fun x _ ih l=>List.rec (motive:=fun _=>Bool) false (fun y r _=>Bool.rec (motive:=fun _=>Bool) false (ih r) (qOC x y)) l) t
theorem qyA:∀t l:List Nat,qyU t l=decide (l.take t.length=t)
 | [],l=>by show true=_;simp
 | x::t,[]=>by show false=_;simp
 | x::t,y::l=>by
  show Bool.rec (motive:=fun _=>Bool) false (qyU t l) (qOC x y)=_
  rw [qyA t l]
  rw [qlq]
  by_cases h:x=y
  ·simp [h]
  ·simp [h,Ne.symm h]
theorem qCJ {l t:List Nat} {H:List Obj}:qh pg 240 [.d (.s l),.d (.s t)] H=some ⟨false,true,.d (.b (qyU t l)),H,H.length⟩:=by
 rw [kZ (fn:=qo) rfl rfl,qyA]
 by_cases h:t.length<=l.length
 ·have h1:((t.length:Int)<=(l.length:Int))=True:=by rw [eq_iff_iff];simp;omega
  have h2:=qDp h
  simp only [qoa,qo,Nat.zero_add,Nat.reduceAdd,reduceCtorEq,qqo,qAF,Nat.reduceEqDiff,Bool.or_self,h1,decide_true,↓reduceIte,qnz,qpJ,qpB,qBY,qsi,h2,quy,kg]
  all_goals rfl
 ·have h1:((t.length:Int)<=(l.length:Int))=False:=by rw [eq_iff_iff];simp;omega
  have h2:decide (l.take t.length=t)=false:=by
   simp only [decide_eq_false_iff_not]
   intro e
   have:=congrArg List.length e
   simp at this
   omega
  simp only [qoa,qo,Nat.zero_add,Nat.reduceAdd,reduceCtorEq,qqo,qAF,Nat.reduceEqDiff,Bool.or_self,h1,decide_false,qOF,↓reduceIte,kg,h2]
  all_goals rfl
theorem qEe {l t:List Nat} {H:List Obj}:qh pg 176 [.d (.s l),.d (.s t)] H=some ⟨false,true,.d (.b (qyU t l)),H,H.length⟩:=by
 rw [kZ (fn:=zm) rfl rfl]
 simp only [qoa,zm,Nat.zero_add,Nat.reduceAdd,reduceCtorEq,Nat.reduceEqDiff,List.map_cons,List.map_nil,Bool.and_self,qCJ,Nat.min_self,kg]
 all_goals rfl
noncomputable def atF (v:V) (H:List Obj):Option (List V):=OP.rec (motive:=fun _=>Option (List V)) none (fun id off=>Bool.rec (motive:=fun _=>Option (List V)) none (qo5 (fnth H id)) (qOC off 0)) (fun _ _=>none) (fun _=>none) (vP v)
theorem quZ {v:V} {H:List Obj} {cs:List V} (h:atF v H=some cs):∃id,v=.ptr id 0/\H[id]?=some (.cells cs):=by
 unfold atF at h
 cases hv:vP v with
 | p id off=>
  rw [hv] at h
  have h:Bool.rec (motive:=fun _=>Option (List V)) none (qo5 (fnth H id)) (qOC off 0)=some cs:=h
  cases hb:qOC off 0 with
  | false=>rw [hb] at h;cases h
  | true=>
   rw [hb] at h
   have e:=qOz hb
   subst e
   refine ⟨id,qMM hv,?_⟩
   rw [<- zI]
   exact qps h
 | _=>rw [hv] at h;cases h
noncomputable def qJH (vs:List V) (H:List Obj):Option Cr:=
 match vs with
 | [v,w]=>(match atF v H with
  | some (s::i::_)=>(match vT s,vI i,vT w with
   | .s s,.yes .i64 (.ofNat n),.s t=>Bool.rec (motive:=fun _=>Option Cr) none (fDc s n fun r=>qxI H (qyU t r)) (Nat.ble n (z0 s))
   | _,_,_=>none)
  | _=>none)
 | _=>none
theorem qC9 {vs:List V} {H:List Obj} {r:Cr} (h:qJH vs H=some r):qh pg 108 vs H=some r:=by
 unfold qJH at h
 split at h
 ·rename_i v w
  split at h
  ·rename_i s i l ha
   obtain ⟨id,rfl,hH⟩:=quZ ha
   split at h
   ·rename_i s' n t hs hi hw
    rw [qoG hs,qf1 hi] at hH
    rw [qoG hw]
    rw [kc] at h
    cases hd:Nat.ble n s'.length with
    | false=>rw [hd] at h;cases h
    | true=>
     rw [hd] at h
     have hn:=qOH hd
     replace h:(fDc s' n fun r=>qxI H (qyU t r))=some r:=h
     rw [qxq] at h
     rw [qoA h]
     have h2:=qEx hn
     rw [kZ (fn:=zF) rfl rfl]
     simp only [qoa,zF,Nat.zero_add,Nat.reduceAdd,qof,ql6,reduceCtorEq,qpe,qlV,qqm,ql5,qfI,qkc,qtw,Nat.add_zero,qmV,qoS,hH,Int.ofNat_eq_natCast,qts,List.getElem?_cons_zero,qOG,qx6,qsX,List.getElem?_cons_succ,qnz,Nat.reduceEqDiff,qpB,qBY,qpJ,qsi,h2,List.map_cons,List.map_nil,Bool.and_self,qEe,Nat.min_self,qgE,qgP,kg]
     all_goals rfl
   ·cases h
  ·cases h
 ·cases h
end W
/- Small functions, continued: the symbol that is read; a text in a list, a byte in a text. -/
namespace W
open Go (IntKind BinOp UnOp)
set_option maxRecDepth 20000
set_option linter.defProp false in
def qk9:=(And.intro (And.intro (And.intro (And.intro (And.intro (And.intro @qzz @qlJ) (And.intro @qpj @qwo)) (And.intro (And.intro @qxC @qID) (And.intro @qsU @qtN))) (And.intro (And.intro (And.intro @qzA @qqV) (And.intro @qnl @qoM)) (And.intro (And.intro @qtT @qtF) (And.intro @qhw (And.intro @qjr @qy6))))) (And.intro (And.intro (And.intro (And.intro @qNG @qBe) (And.intro @qmQ @qzw)) (And.intro (And.intro @qkc @qDR) (And.intro @qec (And.intro @qqq @qvV)))) (And.intro (And.intro (And.intro @qqF @qqJ) (And.intro @qmZ @quc)) (And.intro (And.intro @quG @quU) (And.intro @qE7 (And.intro @qAe @qru)))))) (And.intro (And.intro (And.intro (And.intro (And.intro @qvR @qmV) (And.intro @qI6 @qwu)) (And.intro (And.intro @qFc @qvD) (And.intro @qt3 (And.intro @qtf @qtv)))) (And.intro (And.intro (And.intro @qx6 @qj7) (And.intro @qre @qmS)) (And.intro (And.intro @qhC @qjK) (And.intro @qA7 (And.intro @qHu @qCn))))) (And.intro (And.intro (And.intro (And.intro @qjv @qsK) (And.intro @qCZ @qpk)) (And.intro (And.intro @qph @qnp) (And.intro @qtM (And.intro @quy @qxe)))) (And.intro (And.intro (And.intro @qt6 @qB2) (And.intro @qhO @qto)) (And.intro (And.intro @qyK @qDm) (And.intro @qEA (And.intro @quQ @qoO)))))))
noncomputable def qBN (v:V) (H:List Obj):Option (List D):=
 match atF v H with
 | some (l::i::_)=>(match vL l,vI i with
  | .sl xs,.yes .i64 (.ofNat n)=>(match fnth xs n with
   | some y=>(match isAgg y with
    | some [a,b,c,d,e]=>(match vI (.d a),vI (.d b),vI (.d c),vT (.d d),vI (.d e) with
     | .yes k1 n1,.yes k2 n2,.yes k3 n3,.s t,.yes k5 n5=>some [.i k1 n1,.i k2 n2,.i k3 n3,.s t,.i k5 n5]
     | _,_,_,_,_=>none)
    | _=>none)
   | none=>none)
  | _,_=>none)
 | _=>none
theorem qpn {v:V} {H:List Obj} {cs:List D} (h:qBN v H=some cs):∃id xs l,∃n:Nat,v=.ptr id 0/\H[id]?=some (.cells (.d (.sl xs)::.d (.i .i64 (n:Int))::l))/\iaV (.d (.sl xs)) (.d (.i .i64 (n:Int))) 5 none=some (.cp (.agg cs))/\∃k1 n1 k2 n2 k3 n3 t k5 n5,cs=[.i k1 n1,.i k2 n2,.i k3 n3,.s t,.i k5 n5]:=by
 unfold qBN at h
 split at h
 ·rename_i l i q ha
  obtain ⟨id,rfl,hH⟩:=quZ ha
  split at h
  ·rename_i xs n hl hi
   rw [qAA hl,qf1 hi] at hH
   split at h
   ·rename_i y hy
    split at h
    ·rename_i a b c d e hg
     split at h
     ·rename_i k1 n1 k2 n2 k3 n3 t k5 n5 h1 h2 h3 h4 h5
      cases h
      cases qf1 h1;cases qf1 h2;cases qf1 h3;cases qoG h4;cases qf1 h5
      rw [zI] at hy
      cases y with
      | agg u=>
       have hg:some u=some _:=hg
       cases hg
       exact ⟨id,xs,q,n,rfl,hH,qtg (by omega) (by simpa using hy) (by simp [D.cells]),k1,n1,k2,n2,k3,n3,t,k5,n5,rfl⟩
      | _=>cases hg
     ·cases h
    ·cases h
   ·cases h
  ·cases h
 ·cases h
noncomputable def qva (vs:List V) (H:List Obj):Option Cr:=
 match vs with
 | [v]=>(match qBN v H with
  | some cs=>some ⟨false,true,.d (.agg cs),H,H.length⟩
  | none=>none)
 | _=>none
theorem qsj {vs:List V} {H:List Obj} {r:Cr} (h:qva vs H=some r):∃id xs l,∃n:Nat,vs=[.ptr id 0]/\H[id]?=some (.cells (.d (.sl xs)::.d (.i .i64 (n:Int))::l))/\∃k1 n1 k2 n2 k3 n3 t k5 n5,iaV (.d (.sl xs)) (.d (.i .i64 (n:Int))) 5 none=some (.cp (.agg [.i k1 n1,.i k2 n2,.i k3 n3,.s t,.i k5 n5]))/\r=⟨false,true,.d (.agg [.i k1 n1,.i k2 n2,.i k3 n3,.s t,.i k5 n5]),H,H.length⟩:=by
 unfold qva at h
 split at h
 ·split at h
  ·rename_i v cs hc
   cases h
   obtain ⟨id,xs,l,n,rfl,hH,hi,k1,n1,k2,n2,k3,n3,t,k5,n5,rfl⟩:=qpn hc
   exact ⟨id,xs,l,n,rfl,hH,k1,n1,k2,n2,k3,n3,t,k5,n5,hi,rfl⟩
  ·cases h
 ·cases h
theorem qAz {vs:List V} {H:List Obj} {r:Cr} (h:qva vs H=some r):qh pg 51 vs H=some r:=by
 obtain ⟨id,xs,l,n,rfl,hH,k1,n1,k2,n2,k3,n3,t,k5,n5,hi,rfl⟩:=qsj h
 rw [kZ (fn:=zC) rfl rfl]
 simp only [qk9,zC,Nat.zero_add,List.map_cons,List.map_nil,qof,ql6,reduceCtorEq,qpe,qlV,qqm,ql5,qfI,qtw,Nat.add_zero,qoS,hH,qts,List.getElem?_cons_zero,qOG,qsX,List.getElem?_cons_succ,Nat.reduceEqDiff,hi,qgE,qs6,List.length_cons,List.length_nil,Nat.reduceAdd,qov,Bool.and_self,qsD,qgP,qn3,qwd,Nat.reduceLeDiff,qCV,List.drop_zero,List.take_succ_cons,List.take_zero,qvH,qCy,qwa,qp9,qsb,kg]
 all_goals rfl
theorem qAR {vs:List V} {H:List Obj} {r:Cr} (h:qva vs H=some r):qh pg 41 vs H=some r:=by
 obtain ⟨id,xs,l,n,rfl,hH,k1,n1,k2,n2,k3,n3,t,k5,n5,hi,rfl⟩:=qsj h
 rw [kZ (fn:=kh) rfl rfl]
 simp only [qk9,kh,Nat.zero_add,List.map_cons,List.map_nil,qof,ql6,reduceCtorEq,qpe,qlV,qqm,ql5,qfI,qtw,Nat.add_zero,qoS,hH,qts,List.getElem?_cons_zero,qOG,qsX,List.getElem?_cons_succ,Nat.reduceEqDiff,hi,qgE,qs6,List.length_cons,List.length_nil,Nat.reduceAdd,qov,Bool.and_self,qsD,qgP,qn3,qwd,Nat.reduceLeDiff,qCV,List.drop_zero,List.take_succ_cons,List.take_zero,qvH,qCy,qwa,qp9,qsb,kg]
 all_goals rfl
noncomputable def isX (vs:List V) (H:List Obj):Option Cr:=
 match vs with
 | [v,w]=>(match qBN v H with
  | some [k,_,_,t,_]=>(match vI (.d k),vT (.d t),vT w with
   | .yes .i64 (.ofNat n),.s t,.s s=>qxI H (Bool.rec (motive:=fun _=>Bool) false (qo1 t s) (orF (qOC n 5) (qOC n 6)))
   | _,_,_=>none)
  | _=>none)
 | _=>none
theorem qL3 {vs:List V} {H:List Obj} {r:Cr} (h:isX vs H=some r):qh pg 115 vs H=some r:=by
 unfold isX at h
 split at h
 ·rename_i v w
  split at h
  ·rename_i k p q t z ht
   split at h
   ·rename_i n t' s hk hs hw
    have hn:qh pg 51 [v] H=some ⟨false,true,.d (.agg [k,p,q,t,z]),H,H.length⟩:=qAz (by simp only [qva,ht])
    have hk:=qf1 hk;cases hk
    have hs:=qoG hs;cases hs
    rw [qoG hw]
    rw [qoA h,qmW,qlq,qlq,qws]
    rw [kZ (fn:=zQ) rfl rfl]
    simp only [Int.ofNat_eq_natCast] at hn
    have e1:((n:Int)=5)=(n=5):=by rw [eq_iff_iff];omega
    have e2:((n:Int)=6)=(n=6):=by rw [eq_iff_iff];omega
    obtain ⟨id,xs,l,m,rfl,_,_,k1,n1,k2,n2,k3,n3,u,k5,n5,hc⟩:=qpn ht
    cases hc
    by_cases h1:n=5<;>by_cases h2:n=6<;>by_cases h3:t'=s
    all_goals simp only [qk9,zQ,Nat.zero_add,Nat.reduceAdd,reduceCtorEq,qsp,qyh,List.map_cons,List.map_nil,qqv,Bool.and_self,hn,h1,Int.cast_ofNat_Int,h3,Nat.min_self,qyD,qpv,Nat.reduceEqDiff,List.length_cons,List.length_nil,qvr,qAK,Nat.add_zero,qA0,quk,quF,qBg,List.getElem?_cons_zero,qOG,Bool.or_true,qtG,decide_true,qrv,quO,Bool.not_true,qtJ,qOF,↓reduceIte,qtS,qnh,qoT,qyz,qqb,List.getElem?_cons_succ,Bool.or_self,qtk,kg,decide_false,Bool.or_false,h2,Int.reduceEq,Bool.not_false,e1,e2,qta]
    all_goals rfl
   ·cases h
  ·cases h
 ·cases h
noncomputable def qCs (vs:List V) (H:List Obj):Option Cr:=
 match vs with
 | [v,k',w]=>(match qBN v H with
  | some [k,_,_,t,_]=>(match vI (.d k),vT (.d t),vT w,vI k' with
   | .yes .i64 (.ofNat n),.s t,.s s,.yes .i64 (.ofNat m)=>qxI H (Bool.rec (motive:=fun _=>Bool) false (qo1 t s) (qOC n m))
   | _,_,_,_=>none)
  | _=>none)
 | _=>none
theorem qDF {vs:List V} {H:List Obj} {r:Cr} (h:qCs vs H=some r):qh pg 38 vs H=some r:=by
 unfold qCs at h
 split at h
 ·rename_i v k' w
  split at h
  ·rename_i k p q t z ht
   split at h
   ·rename_i n t' s m hk hs hw hm
    have hn:qh pg 41 [v] H=some ⟨false,true,.d (.agg [k,p,q,t,z]),H,H.length⟩:=qAR (by simp only [qva,ht])
    have hk:=qf1 hk;cases hk
    have hs:=qoG hs;cases hs
    rw [qoG hw,qf1 hm]
    rw [qoA h,qlq,qws]
    rw [kZ (fn:=q9) rfl rfl]
    simp only [Int.ofNat_eq_natCast] at hn |-
    have e1:((n:Int)=(m:Int))=(n=m):=by rw [eq_iff_iff];omega
    obtain ⟨id,xs,l,i,rfl,_,_,k1,n1,k2,n2,k3,n3,u,k5,n5,hc⟩:=qpn ht
    cases hc
    by_cases h1:n=m<;>by_cases h3:t'=s
    all_goals simp only [qk9,q9,Nat.zero_add,Nat.reduceAdd,reduceCtorEq,qsp,qyh,List.map_cons,List.map_nil,qqv,Bool.and_self,hn,h1,h3,Nat.min_self,qyD,qpv,Nat.reduceEqDiff,List.length_cons,List.length_nil,qvr,qAK,Nat.add_zero,qA0,quk,quF,qBg,List.getElem?_cons_zero,qOG,Bool.or_self,qtG,decide_true,qrv,qqb,qtJ,↓reduceIte,List.getElem?_cons_succ,qnh,qtk,kg,decide_false,e1,qOF,qtS,qoT,qta]
    all_goals rfl
   ·cases h
  ·cases h
 ·cases h
noncomputable def elF (w:List Nat) (xs:List D):Option Bool:=List.rec (motive:=fun _=>Option Bool) (some false) (fun x _ ih=>OT.rec (motive:=fun _=>Option Bool) none (fun t=>Option.rec (motive:=fun _=>Option Bool) none (fun b=>some (Bool.rec (motive:=fun _=>Bool) b true (qo1 t w))) ih) (vT (.d x))) xs
theorem quu {w:List Nat}:∀{xs:List D} {b:Bool},elF w xs=some b->∃L:List (List Nat),xs=L.map D.s/\b=decide (w ∈ L)
 | [],b,h=>by have h:some false=some b:=h;cases h;exact ⟨[],rfl,by simp⟩
 | x::xs,b,h=>by
  replace h:OT.rec (motive:=fun _=>Option Bool) none (fun t=>Option.rec (motive:=fun _=>Option Bool) none (fun b=>some (Bool.rec (motive:=fun _=>Bool) b true (qo1 t w))) (elF w xs)) (vT (.d x))=some b:=h
  cases hv:vT (.d x) with
  | no=>rw [hv] at h;cases h
  | s t=>
   rw [hv] at h
   have e:=qoG hv;cases e
   cases hr:elF w xs with
   | none=>rw [hr] at h;cases h
   | some b'=>
    rw [hr] at h
    obtain ⟨L,rfl,rfl⟩:=quu hr
    refine ⟨t::L,rfl,?_⟩
    have h:some (Bool.rec (motive:=fun _=>Bool) (decide (w ∈ L)) true (qo1 t w))=some b:=h
    cases h
    rw [qws]
    by_cases he:t=w
    ·simp [he]
    ·simp [he,Ne.symm he]
theorem zg {pg:Pg} {e:Env} {H:List Obj} {lo:Nat}:exL pg qs ⟨e,H,lo⟩=qI pg (qf4 (get 0 e)) (qf4 (get 1 e)) (qf4 (get 7 e)) (qf4 (get 8 e)) H lo:=qEP
theorem ze {pg:Pg} {v0 v1 v7 v8:V} {H:List Obj} {lo:Nat}:qI pg v0 v1 v7 v8 H lo=qpI pg (exL pg qp ⟨[(0,qf4 v0),(1,qf4 v1),(7,qf4 v7),(8,qf4 v8)],H,lo⟩) qs:=by
 unfold qI qs;rw [qrp];simp only [qk9,qaf,Nat.reduceEqDiff]
theorem qxW {L:List (List Nat)} {t:List Nat} (hz:L.length<=1000000000000) {H:List Obj} :
  ∀(k i:Nat),L.length - i=k->i<=L.length->(∀j,j<i->L[j]?≠some t)->
   ∃e x r,(x=.nrm\/x=.ret)/\(decide ((0:Int)<=r)=decide (t ∈ L))/\get 4 e=.d (.i .i64 r)/\
    qpI pg (qoE 0 [] (qI pg (.d (slD D.s L)) (.d (.s t)) (.d (.i .i64 (L.length:Nat))) (.d (.i .i64 (i:Nat))) H H.length)) qH=some (x,⟨e,H,H.length⟩):=by
 intro k
 induction k with
 | zero=>
  intro i hk hi hno
  obtain rfl:i=L.length:=by omega
  have h1:((L.length:Int)<(L.length:Int))=False:=by simp
  have hnm:t ∉ L:=by
   intro h
   obtain ⟨j,hj⟩:=List.getElem?_of_mem h
   have:j<L.length:=(List.getElem?_eq_some_iff.1 hj).1
   exact hno j this hj
  rw [ze]
  simp only [qk9,qp,Bool.or_self,reduceCtorEq,Nat.reduceEqDiff,h1,decide_false,qOF,↓reduceIte,qBK,qxh,qvq,qH,Int.reduceNeg]
  exact ⟨_,_,-1,.inr rfl,by simp [hnm],rfl,rfl⟩
 | succ k ih=>
  intro i hk hi hno
  have h1:((i:Int)<(L.length:Int))=True:=by rw [eq_iff_iff];simp;omega
  have hlt:i<L.length:=by omega
  have hia:iaV (.d (slD D.s L)) (.d (.i .i64 (i:Int))) 1 none=some (.cp (.s L[i])):=qEU (fun _=>rfl) (by omega) (by simp)
  have hw:wr .i64 ((i:Int)+1)=((i+1:Nat):Int):=by rw [qwX (by omega) (by omega)];omega
  rw [ze]
  by_cases he:t=L[i]
  ·have h2:(t=L[i])=True:=by simp [he]
   simp only [qk9,qp,Bool.or_self,reduceCtorEq,Nat.reduceEqDiff,h1,decide_true,↓reduceIte,qrj,hia,qCj,qm1,h2,qwJ,qzg,qH,Int.reduceNeg]
   exact ⟨_,_,(i:Int),.inr rfl,by rw [he];simp,rfl,rfl⟩
  ·have h2:(t=L[i])=False:=by simp [he]
   have ih':=ih (i+1) (by omega) (by omega) (fun j hj=>by
    rcases Nat.lt_or_ge j i with h|h
    ·exact hno j h
    ·obtain rfl:j=i:=by omega
     rw [List.getElem?_eq_getElem hlt]
     intro h';exact he (Option.some.inj h').symm)
   simp only [qk9,qp,Bool.or_self,reduceCtorEq,Nat.reduceEqDiff,h1,decide_true,↓reduceIte,qrj,hia,qCj,qm1,h2,decide_false,qOF,qxU,qaf,Bool.or_true,qEf,hw,zg]
   exact ih'
theorem qxr {L:List (List Nat)} {t:List Nat} (hz:L.length<=1000000000000) {H:List Obj} :
  ∃r:Int,decide ((0:Int)<=r)=decide (t ∈ L)/\qh pg 178 [.d (slD D.s L),.d (.s t)] H=some ⟨false,true,.d (.i .i64 r),H,H.length⟩:=by
 obtain ⟨e,x,r,hx,h1,h2,h3⟩:=qxW (t:=t) hz (H:=H) L.length 0 rfl (by omega) (by simp)
 refine ⟨r,h1,?_⟩
 rw [kZ (fn:=qy) rfl rfl]
 have hz0:((0:Nat):Int)=0:=rfl
 rw [hz0] at h3
 simp only [qk9,qy,Nat.zero_add,Nat.reduceAdd,reduceCtorEq,qrA,qBS,zg,Nat.reduceEqDiff]
 rw [h3]
 rcases hx with rfl|rfl
 all_goals simp only [qk9,qB3,h2,kg]
 all_goals rfl
theorem qrG {L:List (List Nat)} {t:List Nat} (hz:L.length<=1000000000000) {H:List Obj}:qh pg 112 [.d (slD D.s L),.d (.s t)] H=some ⟨false,true,.d (.b (decide (t ∈ L))),H,H.length⟩:=by
 obtain ⟨r,h1,h2⟩:=qxr (t:=t) hz (H:=H)
 rw [kZ (fn:=qq) rfl rfl]
 simp only [qk9,qq,Nat.zero_add,Nat.reduceAdd,reduceCtorEq,Nat.reduceEqDiff,List.map_cons,List.map_nil,Bool.and_self,h2,Nat.min_self,Bool.or_true,qyI,h1,kg]
 all_goals rfl
noncomputable def ctX (vs:List V) (H:List Obj):Option Cr:=
 match vs with
 | [l,w]=>(match vL l,vT w with
  | .sl (x::xs),.s w=>Option.rec (motive:=fun _=>Option Cr) none (fun b=>Bool.rec (motive:=fun _=>Option Cr) none (qxI H b) (Nat.ble (z0 (x::xs)) 1000000000000)) (elF w (x::xs))
  | _,_=>none)
 | _=>none
theorem qK8 {vs:List V} {H:List Obj} {r:Cr} (h:ctX vs H=some r):qh pg 112 vs H=some r:=by
 unfold ctX at h
 split at h
 ·split at h
  ·rename_i x xs w' hl hw
   rw [qAA hl,qoG hw]
   cases he:elF w' (x::xs) with
   | none=>rw [he] at h;cases h
   | some b=>
    rw [he] at h
    obtain ⟨L,hL,rfl⟩:=quu he
    cases hb:Nat.ble (z0 (x::xs)) 1000000000000 with
    | false=>rw [hb] at h;cases h
    | true=>
     rw [hb] at h
     rw [qoA h]
     have hz:=qOH hb
     rw [kc,hL,List.length_map] at hz
     have hs:D.sl (x::xs)=slD D.s L:=by
      rw [hL]
      cases L with
      | nil=>cases hL
      | cons a l=>rfl
     rw [hs]
     exact qrG hz
  ·cases h
 ·cases h
end W
/- What stands in for small functions; calls whose results are known. -/
namespace W
set_option maxRecDepth 100000
inductive KZ where
 | mk (f:List V->List Obj->Option Cr)
noncomputable def KZ.run (k:KZ):List V->List Obj->Option Cr:=KZ.rec (motive:=fun _=>List V->List Obj->Option Cr) (fun f=>f) k
def qOo:D:=(.s [65,82,82,65,89,32,66,69,71,73,78,32,66,89,32,67,65,83,69,32,67,79,78,83,84,32,68,73,86,32,68,79,32,69,76,83,69,32,69,76,83,73,70,32,69,78,68,32,70,65,76,83,69,32,70,79,82,32,73,70,32,73,77,80,79,82,84,32,73,78,32,73,83,32,77,79,68,32,77,79,68,85,76,69,32,78,73,76,32,79,70,32,79,82,32,80,79,73,78,84,69,82,32,80,82,79,67,69,68,85,82,69,32,82,69,67,79,82,68,32,82,69,80,69,65,84,32,82,69,84,85,82,78,32,84,72,69,78,32,84,79,32,84,82,85,69,32,84,89,80,69,32,85,78,84,73,76,32,86,65,82,32,87,72,73,76,69])
def qOm:D:=(.sl (List.map .s [[65,82,82,65,89],[66,69,71,73,78],[66,89],[67,65,83,69],[67,79,78,83,84],[68,73,86],[68,79],[69,76,83,69],[69,76,83,73,70],[69,78,68],[70,65,76,83,69],[70,79,82],[73,70],[73,77,80,79,82,84],[73,78],[73,83],[77,79,68],[77,79,68,85,76,69],[78,73,76],[79,70],[79,82],[80,79,73,78,84,69,82],[80,82,79,67,69,68,85,82,69],[82,69,67,79,82,68],[82,69,80,69,65,84],[82,69,84,85,82,78],[84,72,69,78],[84,79],[84,82,85,69],[84,89,80,69],[85,78,84,73,76],[86,65,82],[87,72,73,76,69]]))
def qOr:D:=(.s [73,78,84,69,71,69,82,32,67,72,65,82,32,66,79,79,76,69,65,78,32,83,69,84,32,65,66,83,32,79,68,68,32,76,83,76,32,65,83,82,32,82,79,82,32,79,82,68,32,67,72,82,32,76,69,78,32,73,78,67,32,68,69,67,32,73,78,67,76,32,69,88,67,76,32,78,69,87,32,65,83,83,69,82,84])
def qOa:D:=(.sl (List.map .s [[73,78,84,69,71,69,82],[67,72,65,82],[66,79,79,76,69,65,78],[83,69,84],[65,66,83],[79,68,68],[76,83,76],[65,83,82],[82,79,82],[79,82,68],[67,72,82],[76,69,78],[73,78,67],[68,69,67],[73,78,67,76],[69,88,67,76],[78,69,87],[65,83,83,69,82,84]]))
def qvd:List Ent:=[
⟨78,[(.s [77,79,68,85,76,69])],.one (.b true)⟩,
⟨78,[(.s [77])],.one (.b false)⟩,
⟨78,[(.s [67,79,78,83,84])],.one (.b true)⟩,
⟨78,[(.s [107])],.one (.b false)⟩,
⟨78,[(.s [84,89,80,69])],.one (.b true)⟩,
⟨78,[(.s [82])],.one (.b false)⟩,
⟨78,[(.s [82,69,67,79,82,68])],.one (.b true)⟩,
⟨78,[(.s [120])],.one (.b false)⟩,
⟨78,[(.s [73,78,84,69,71,69,82])],.one (.b false)⟩,
⟨78,[(.s [69,78,68])],.one (.b true)⟩,
⟨78,[(.s [83])],.one (.b false)⟩,
⟨78,[(.s [86,65,82])],.one (.b true)⟩,
⟨78,[(.s [105])],.one (.b false)⟩,
⟨78,[(.s [99])],.one (.b false)⟩,
⟨78,[(.s [67,72,65,82])],.one (.b false)⟩,
⟨78,[(.s [98])],.one (.b false)⟩,
⟨78,[(.s [66,79,79,76,69,65,78])],.one (.b false)⟩,
⟨78,[(.s [115])],.one (.b false)⟩,
⟨78,[(.s [83,69,84])],.one (.b false)⟩,
⟨78,[(.s [112])],.one (.b false)⟩,
⟨78,[(.s [80,79,73,78,84,69,82])],.one (.b true)⟩,
⟨78,[(.s [84,79])],.one (.b true)⟩,
⟨78,[(.s [113])],.one (.b false)⟩,
⟨78,[(.s [114])],.one (.b false)⟩,
⟨78,[(.s [119])],.one (.b false)⟩,
⟨78,[(.s [116])],.one (.b false)⟩,
⟨78,[(.s [65,82,82,65,89])],.one (.b true)⟩,
⟨78,[(.s [79,70])],.one (.b true)⟩,
⟨78,[(.s [118])],.one (.b false)⟩,
⟨78,[(.s [97])],.one (.b false)⟩,
⟨78,[(.s [80,82,79,67,69,68,85,82,69])],.one (.b true)⟩,
⟨78,[(.s [102])],.one (.b false)⟩,
⟨78,[(.s [110])],.one (.b false)⟩,
⟨78,[(.s [82,69,84,85,82,78])],.one (.b true)⟩,
⟨78,[(.s [66,69,71,73,78])],.one (.b true)⟩,
⟨78,[(.s [78,73,76])],.one (.b true)⟩,
⟨81,[(.s [43,45,42,47,38,126,61,35,60,62,46,44,59,58,40,41,91,93,123,125,94,124]),(.i .u8 59)],.one (.b true)⟩,
⟨81,[(.s [43,45,42,47,38,126,61,35,60,62,46,44,59,58,40,41,91,93,123,125,94,124]),(.i .u8 61)],.one (.b true)⟩,
⟨81,[(.s [43,45,42,47,38,126,61,35,60,62,46,44,59,58,40,41,91,93,123,125,94,124]),(.i .u8 58)],.one (.b true)⟩,
⟨81,[(.s [43,45,42,47,38,126,61,35,60,62,46,44,59,58,40,41,91,93,123,125,94,124]),(.i .u8 40)],.one (.b true)⟩,
⟨81,[(.s [43,45,42,47,38,126,61,35,60,62,46,44,59,58,40,41,91,93,123,125,94,124]),(.i .u8 41)],.one (.b true)⟩,
⟨81,[(.s [43,45,42,47,38,126,61,35,60,62,46,44,59,58,40,41,91,93,123,125,94,124]),(.i .u8 46)],.one (.b true)⟩,
⟨81,[(.s [43,45,42,47,38,126,61,35,60,62,46,44,59,58,40,41,91,93,123,125,94,124]),(.i .u8 91)],.one (.b true)⟩,
⟨81,[(.s [43,45,42,47,38,126,61,35,60,62,46,44,59,58,40,41,91,93,123,125,94,124]),(.i .u8 93)],.one (.b true)⟩,
⟨81,[(.s [43,45,42,47,38,126,61,35,60,62,46,44,59,58,40,41,91,93,123,125,94,124]),(.i .u8 94)],.one (.b true)⟩,
⟨113,[qOo],.one qOm⟩,
⟨113,[qOr],.one qOa⟩]
def qEY (n:Nat):Bool:=qOC n 38 || qOC n 41 || qOC n 51 || qOC n 75 || qOC n 76 || qOC n 78 || qOC n 81 || qOC n 104 || qOC n 106 || qOC n 108 || qOC n 112 || qOC n 113 || qOC n 115 || qOC n 172 || qOC n 296
noncomputable def zl:List (Nat × KZ):=[(51,.mk (qva)),(41,.mk (qva)),(115,.mk (isX)),(38,.mk (qCs)),(104,.mk (byX cLt)),(76,.mk (byX cLt)),(106,.mk (byX cDg)),(172,.mk (byX cNm)),(75,.mk (byX cBl)),(108,.mk (qJH)),(112,.mk (ctX)),(296,.mk (ixX))]
noncomputable def eq1 (v:V) (y:D):Bool:=OT.rec (motive:=fun _=>Bool) (qoI [v] [y]) (fun t=>OT.rec (motive:=fun _=>Bool) false (fun u=>qo1 t u) (vT (.d y))) (vT v)
noncomputable def qvo (vs:List V):List D->Bool:=List.rec (motive:=fun _=>List D->Bool) (fun l=>List.rec (motive:=fun _=>Bool) true (fun _ _ _=>false) l) (fun v _ ih l=>List.rec (motive:=fun _=>Bool) false (fun y r _=>Bool.rec (motive:=fun _=>Bool) false (ih r) (eq1 v y)) l) vs
noncomputable def qv1 (i:Nat) (vs:List V) (T:List Ent):Option Ent:=List.rec (motive:=fun _=>Option Ent) none (fun e _ ih=>Bool.rec (motive:=fun _=>Option Ent) ih (Bool.rec (motive:=fun _=>Option Ent) ih (some e) (qvo vs e.a)) (qOC e.f i)) T
theorem qFP {v:V} {y:D}:eq1 v y=qoI [v] [y]:=by
 unfold eq1
 cases hv:vT v with
 | no=>rfl
 | s t=>
  rw [qoG hv]
  cases hy:vT (.d y) with
  | no=>
   show false=(eqD (.s t) y && true)
   cases y with
   | s u=>cases hy
   | _=>rfl
  | s u=>
   have e:=qoG hy;cases e
   show qo1 t u=(eqD (.s t) (.s u) && true)
   rw [qp1,Bool.and_true];rfl
theorem qv8:∀(vs:List V) (l:List D),qvo vs l=qoI vs l
 | [],[]=>rfl
 | [],_::_=>rfl
 | v::vs,[]=>by cases v<;>rfl
 | v::vs,y::l=>by
  have e:qvo (v::vs) (y::l)=Bool.rec (motive:=fun _=>Bool) false (qvo vs l) (eq1 v y):=rfl
  rw [e,qFP,qv8 vs l]
  cases v with
  | d x=>simp only [qoI,Bool.and_true];cases eqD x y<;>rfl
  | _=>rfl
theorem qv2 {i:Nat} {vs:List V}:∀T:List Ent,qv1 i vs T=pick i vs T
 | []=>rfl
 | e::T=>by
  have h:qv1 i vs (e::T)=Bool.rec (motive:=fun _=>Option Ent) (qv1 i vs T) (Bool.rec (motive:=fun _=>Option Ent) (qv1 i vs T) (some e) (qvo vs e.a)) (qOC e.f i):=rfl
  rw [h,qv2 T,qv8]
  rw [show pick i vs (e::T)=bif qOC e.f i && qoI vs e.a then some e else pick i vs T from rfl]
  cases qOC e.f i<;>cases qoI vs e.a<;>rfl
noncomputable def qsL (T:List Ent) (i:Nat) (vs:List V) (H:List Obj):Option Cr:=Option.rec (motive:=fun _=>Option Cr) none (fun e=>some ⟨false,true,e.r.v,H,H.length⟩) (qv1 i vs T)
theorem qyd {T:List Ent} {i:Nat} {vs:List V} {H:List Obj}:qsL T i vs H=qtx T i vs H:=by
 unfold qsL qtx
 rw [qv2]
 cases pick i vs T<;>rfl
noncomputable def qlF (i:Nat) (l:List (Nat × KZ)) (d:KZ):KZ:=List.rec (motive:=fun _=>KZ) d (fun p _ ih=>Bool.rec (motive:=fun _=>KZ) ih p.2 (qOC p.1 i)) l
noncomputable def pgT (gone:Nat->Bool) (T:List Ent):Pg:=⟨fun n=>bif qEY n || gone n then none else pg.fn n,fun i vs H=>(qlF i zl (.mk (qsL T i))).run vs H⟩
noncomputable def pg1:Pg:=pgT (fun _=>false) qvd
theorem qFf:∀p ∈ zl,∀vs H r,p.2.run vs H=some r->qh pg p.1 vs H=some r:=by
 simp only [zl,List.forall_mem_cons]
 exact ⟨fun _ _ _ h=>qAz h,fun _ _ _ h=>qAR h,fun _ _ _ h=>qL3 h,fun _ _ _ h=>qDF h,fun _ _ _ h=>(by obtain ⟨c,rfl,rfl⟩:=qlp h;exact qpr),fun _ _ _ h=>(by obtain ⟨c,rfl,rfl⟩:=qlp h;exact quh),fun _ _ _ h=>(by obtain ⟨c,rfl,rfl⟩:=qlp h;exact qp8),fun _ _ _ h=>(by obtain ⟨c,rfl,rfl⟩:=qlp h;exact qxk),fun _ _ _ h=>(by obtain ⟨c,rfl,rfl⟩:=qlp h;exact qwO),fun _ _ _ h=>qC9 h,fun _ _ _ h=>qK8 h,fun _ _ _ h=>(by rw [qib];unfold qm;rw [show pg.fn 296=none from rfl];exact h),fun _ h=>by cases h⟩
theorem qnF {i:Nat} {d:KZ}:∀l:List (Nat × KZ),qlF i l d=d\/∃p ∈ l,p.1=i/\qlF i l d=p.2
 | []=>.inl rfl
 | p::l=>by
  have e:qlF i (p::l) d=Bool.rec (motive:=fun _=>KZ) (qlF i l d) p.2 (qOC p.1 i):=rfl
  rw [e]
  cases hb:qOC p.1 i with
  | true=>exact .inr ⟨p,.head _,qOz hb,rfl⟩
  | false=>exact (qnF l).elim .inl fun ⟨q,hq,h⟩=>.inr ⟨q,.tail _ hq,h⟩
theorem qro {T:List Ent} {i:Nat} {vs:List V} {H:List Obj} {r:Cr} (h:(qlF i zl (.mk (qsL T i))).run vs H=some r):qh pg i vs H=some r\/qtx T i vs H=some r:=by
 rcases qnF (i:=i) (d:=.mk (qsL T i)) zl with e|⟨p,hp,rfl,e⟩
 ·rw [e] at h;exact .inr (qyd▸h)
 ·rw [e] at h;exact .inl (qFf p hp vs H r h)
theorem qt0 {pg:Pg} (hx:qu pg.ext) (f:Nat):qu fun _ vs H=>qh pg f vs H:=fun i vs H r h=>by
 obtain ⟨n,hn⟩:=je.1 h
 exact ye hx (qav hx n) _ _ _ _ hn
theorem qpY {gone:Nat->Bool} {T:List Ent}:qu (pgT gone T).ext:=fun i vs H r h=>by
 rcases qro h with h|h
 ·exact qt0 qt4 i i vs H r h
 ·exact qtB i vs H r h
end W
/- Assignments, their symbols. -/
namespace W
set_option maxRecDepth 100000
def isW (c:Nat):Bool:=(Nat.ble 48 c && Nat.ble c 57) || (Nat.ble 65 c && Nat.ble c 90) || (Nat.ble 97 c && Nat.ble c 122)
def tk (k a b:Nat) (t:List Nat) (n:Nat):D:=.agg [.i .i64 (.ofNat k),.i .i64 (.ofNat a),.i .i64 (.ofNat b),.s t,.i .i32 (.ofNat n)]
def kws:List (List Nat):=[[65,82,82,65,89],[66,69,71,73,78],[67,79,78,83,84],[69,78,68],[77,79,68,85,76,69],[78,73,76],[79,70],[80,79,73,78,84,69,82],[80,82,79,67,69,68,85,82,69],[82,69,67,79,82,68],[82,69,84,85,82,78],[84,79],[84,89,80,69],[86,65,82]]
def wd (p:Nat) (w:List Nat) (r:List D):List D:=match w with
 | []=>r
 | c::l=>let a:=p - w.length
  bif eqT w [88,49,52] then tk 3 a p [] 65::r
  else bif !isW c then tk 5 a p w.reverse 0::r
  else bif Nat.ble c 57 && eqT l [] then tk 2 a p [] (c - 48)::r
  else tk (bif kws.any (eqT w.reverse) then 6 else 1) a p w.reverse 0::r
def inS (w:List Nat):Bool:=match w.reverse with
 | 34::_=>true
 | _=>false
def toks (p:Nat) (w:List Nat):List Nat->List D
 | []=>wd p w [tk 0 p p [] 0]
 | c::l=>
  bif inS w then (bif qOC c 34 then tk 4 (p - w.length) (p+1) (w.reverse.drop 1) 0::toks (p+1) [] l else toks (p+1) (c::w) l)
  else bif qOC c 34 then wd p w (toks (p+1) [34] l)
  else bif isW c then (match w with
   | d::_=>bif isW d then toks (p+1) (c::w) l else wd p w (toks (p+1) [c] l)
   | []=>toks (p+1) [c] l)
  else bif qOC c 61 && eqT w [58] then wd (p+1) (c::w) (toks (p+1) [] l)
  else wd p w (bif qOC c 58 then toks (p+1) [c] l else bif qOC c 32 then toks (p+1) [] l else tk 5 p (p+1) [c] 0::toks (p+1) [] l)
def hdS:List Nat:=[77,79,68,85,76,69,32,77,59,32,67,79,78,83,84,32,107,32,61,32,49,59,32,84,89,80,69,32,82,32,61,32,82,69,67,79,82,68,32,120,58,32,73,78,84,69,71,69,82,32,69,78,68,59,32,83,32,61,32,82,69,67,79,82,68,32,40,82,41,32,69,78,68,59,32,86,65,82,32,105,58,32,73,78,84,69,71,69,82,59,32,99,58,32,67,72,65,82,59,32,98,58,32,66,79,79,76,69,65,78,59,32,115,58,32,83,69,84,59,32,112,58,32,80,79,73,78,84,69,82,32,84,79,32,82,59,32,113,58,32,80,79,73,78,84,69,82,32,84,79,32,83,59,32,114,58,32,82,59,32,119,58,32,83,59,32,116,58,32,65,82,82,65,89,32,51,32,79,70,32,67,72,65,82,59,32,118,58,32,65,82,82,65,89,32,52,32,79,70,32,67,72,65,82,59,32,97,58,32,65,82,82,65,89,32,51,32,79,70,32,73,78,84,69,71,69,82,59,32,80,82,79,67,69,68,85,82,69,32,102,32,40,110,58,32,73,78,84,69,71,69,82,41,58,32,73,78,84,69,71,69,82,59,32,82,69,84,85,82,78,32,110,32,69,78,68,32,102,59,32,66,69,71,73,78,32]
def lsS:List (List Nat):=[[105],[99],[98],[115],[112],[113],[114],[119],[116],[118],[112,46,120],[116,91,49,93],[97,91,49,93],[97],[112,94],[113,40,83,41],[107],[102]]
def esS:List (List Nat):=[[49],[99],[34,120,34],[34,120,121,34],[34,120,121,122,34],[98],[115],[112],[113],[78,73,76],[114],[119],[116],[118],[97],[112,94],[113,94],[105],[102,40,49,41],[52,49,88]]
def srS (x y:List Nat):List Nat:=((hdS++x)++[32,58,61,32]++y)++[32,69,78,68,32,77,46]
noncomputable def frc {γ:Type} (l:List Nat) (κ:List Nat->γ):γ:=List.rec (motive:=fun _=>(List Nat->γ)->γ) (fun κ=>κ []) (fun x _ ih κ=>ih fun r=>κ (x::r)) l κ
theorem qAD {γ:Type}:∀(l:List Nat) (κ:List Nat->γ),frc l κ=κ l
 | [],κ=>rfl
 | x::l,κ=>by show frc l (fun r=>κ (x::r))=_;rw [qAD]
def g1 (n:Nat):Bool:=qOC n 13 || qOC n 16
def fn_k:Ent:=⟨7,[],.one (.b true)⟩
noncomputable def qAy (a b:Bool):Bool:=Bool.rec (motive:=fun _=>Bool) false b a
theorem qtd {a b:Bool} (h:qAy a b=true):a=true/\b=true:=by cases a<;>first|exact ⟨rfl,h⟩|cases h
end W
