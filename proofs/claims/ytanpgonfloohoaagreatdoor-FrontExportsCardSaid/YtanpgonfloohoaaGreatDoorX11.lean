/-
  FrontExports, part 11.
-/
import Derived.Test.YtanpgonfloohoaaGreatDoorX7
/-
  The same evaluator, in forms that the kernel reckons fast.
-/
set_option linter.unusedSimpArgs false
set_option linter.unusedVariables false
open Bool renaming cond_eq_ite→qM3,and_eq_true→qM4,false_eq_true→qNa,not_true→qNd,and_self→qNf
open Nat renaming eq_of_beq_eq_true→qM5,le_refl→qM7,beq→qM8,zero_add→qNe
open Option renaming bind_eq_some_iff→qM6,bind_eq_bind→qM9,pure_def→qNb,map_some→qNc
namespace W
open Go (IntKind BinOp UnOp)
noncomputable def fget (n:Nat) (e:Env):V:=List.rec (motive:=fun _=>V) .undef (fun p _ ih=>Bool.rec ih p.2 (qM8 n p.1)) e
theorem yI (n:Nat) (e:Env):fget n e=get n e:=by
 induction e with
 | nil=>rfl
 | cons p e ih=>
  obtain ⟨m,v⟩:=p
  show Bool.rec (fget n e) v (qM8 n m)=bif qM8 n m then v else get n e
  rw [ih]
  cases qM8 n m<;>rfl
noncomputable def qx9 {α:Type} (l:List α) (n:Nat):Option α:=
 List.rec (motive:=fun _=>Nat→Option α) (fun _=>none) (fun x _ ih n=>Nat.rec (motive:=fun _=>Option α) (some x) (fun m _=>ih m) n) l n
theorem quX {α:Type} (l:List α) (n:Nat):qx9 l n=l[n]?:=by
 induction l generalizing n with
 | nil=>rfl
 | cons x l ih=>
  cases n with
  | zero=>rfl
  | succ n=>exact ih n
noncomputable def tl4 {α:Type} (l:List α):List α:=List.rec (motive:=fun _=>List α) [] (fun _ t _=>List.rec (motive:=fun _=>List α) [] (fun _ t _=>List.rec (motive:=fun _=>List α) [] (fun _ t _=>List.rec (motive:=fun _=>List α) [] (fun _ t _=>t) t) t) t) l
theorem qGB {α:Type} (l:List α):tl4 l=l.drop 4:=by
 rcases l with _|⟨_,_|⟨_,_|⟨_,_|⟨_,l⟩⟩⟩⟩<;>rfl
noncomputable def qvg {α:Type} (l:List α) (q:Nat):List α:=Nat.rec (motive:=fun _=>List α) l (fun _ ih=>tl4 (tl4 (tl4 (tl4 ih)))) q
theorem qqK {α:Type} (l:List α):∀q,qvg l q=l.drop (16 * q)
 | 0=>rfl
 | q+1=>by
  show tl4 (tl4 (tl4 (tl4 (qvg l q))))=_
  simp only [qGB,qqK l q,List.drop_drop]
  congr 1
noncomputable def fnth {α:Type} (l:List α) (n:Nat):Option α:=
 Nat.rec (motive:=fun _=>Option α) (qx9 l n) (fun q _=>qx9 (qvg l (Nat.succ q)) (Nat.mod n 16)) (Nat.div n 16)
theorem zH {α:Type} (l:List α) (n:Nat):fnth l n=l[n]?:=by
 unfold fnth
 have e:Nat.div n 16=n / 16:=rfl
 rw [e]
 cases hq:n / 16 with
 | zero=>exact quX l n
 | succ q=>
  show qx9 (qvg l (q+1)) (n % 16)=_
  rw [quX,qqK,List.getElem?_drop]
  congr 1
  omega
noncomputable def frd (e:Env) (o:O):V:=O.rec (motive:=fun _=>V) (fun n=>qgY n (fget n e)) (fun x=>.d x) (fun i=>.fn i [] []) (fun n=>qjG (fget n e)) (fun _ x=>.cp x) o
theorem yS (e:Env) (o:O):frd e o=rd e o:=by cases o<;>simp only [frd,yI]<;>rfl
noncomputable def qo {α:Type} (a:Nat) (k:Nat→α):α:=Nat.rec (motive:=fun _=>α) (k 0) (fun m _=>k (Nat.succ m)) a
noncomputable def qrl {α:Type} (n:Int) (k:Int→α):α:=Int.rec (motive:=fun _=>α) (fun a=>qo a fun a=>k (.ofNat a)) (fun a=>qo a fun a=>k (.negSucc a)) n
noncomputable def qwX {α:Type} (b:Bool) (k:Bool→α):α:=Bool.rec (motive:=fun _=>α) (k false) (k true) b
theorem kr {α:Type} (a:Nat) (k:Nat→α):qo a k=k a:=by cases a<;>rfl
theorem qo9 {α:Type} (n:Int) (k:Int→α):qrl n k=k n:=by
 cases n with
 | ofNat a=>exact kr a fun a=>k (.ofNat a)
 | negSucc a=>exact kr a fun a=>k (.negSucc a)
theorem qsl {α:Type} (b:Bool) (k:Bool→α):qwX b k=k b:=by cases b<;>rfl
noncomputable def qwM {α:Type} (l:List Nat) (k:List Nat→α):α:=
 List.rec (motive:=fun _=>(List Nat→α)→α) (fun k=>k []) (fun x _ ih k=>qo x fun x=>ih fun r=>k (x::r)) l k
theorem qzC {α:Type} (l:List Nat) (k:List Nat→α):qwM l k=k l:=by
 induction l generalizing k with
 | nil=>rfl
 | cons x l ih=>exact (kr x fun x=>qwM l fun r=>k (x::r)).trans (ih fun r=>k (x::r))
noncomputable def zU {β α:Type} (f:β→(β→α)→α) (l:List β) (k:List β→α):α:=
 List.rec (motive:=fun _=>(List β→α)→α) (fun k=>k []) (fun x _ ih k=>f x fun x=>ih fun r=>k (x::r)) l k
theorem kp {β α:Type} {f:β→(β→α)→α} (hf:∀x k,f x k=k x) (l:List β) (k:List β→α):zU f l k=k l:=by
 induction l generalizing k with
 | nil=>rfl
 | cons x l ih=>exact (hf x fun x=>zU f l fun r=>k (x::r)).trans (ih fun r=>k (x::r))
noncomputable def qi8 {α:Type} (x:D) (k:D→α):α:=
 D.casesOn (motive_1:=fun _=>α) x (fun z=>qwX z fun z=>k (.b z)) (fun kk n=>qrl n fun n=>k (.i kk n)) (fun t=>k (.s t)) (k .nil) (fun xs=>k (.sl xs)) (fun cs=>k (.agg cs)) (k .np) (k .nf) (k .ni) (k .nm)
theorem qcf {α:Type} (x:D) (k:D→α):qi8 x k=k x:=by
 cases x with
 | b z=>exact qsl z fun z=>k (.b z)
 | i kk n=>exact qo9 n fun n=>k (.i kk n)
 | _=>rfl
noncomputable def qmX {α:Type} (x:D) (k:D→α):α:=
 D.casesOn (motive_1:=fun _=>α) x (fun z=>qwX z fun z=>k (.b z)) (fun kk n=>qrl n fun n=>k (.i kk n)) (fun t=>qwM t fun t=>k (.s t)) (k .nil) (fun xs=>zU qi8 xs fun xs=>k (.sl xs)) (fun cs=>zU qi8 cs fun cs=>k (.agg cs)) (k .np) (k .nf) (k .ni) (k .nm)
theorem qe0 {α:Type} (x:D) (k:D→α):qmX x k=k x:=by
 cases x with
 | b z=>exact qsl z fun z=>k (.b z)
 | i kk n=>exact qo9 n fun n=>k (.i kk n)
 | s t=>exact qzC t fun t=>k (.s t)
 | sl xs=>exact kp qcf xs fun xs=>k (.sl xs)
 | agg xs=>exact kp qcf xs fun xs=>k (.agg xs)
 | _=>rfl
noncomputable def jI {α:Type} (v:V) (k:V→α):α:=
 V.casesOn (motive_1:=fun _=>α) v (fun x=>qi8 x fun x=>k (.d x)) (fun xs=>k (.osl xs)) (fun xs=>k (.fsl xs)) (fun i o=>qo i fun i=>qo o fun o=>k (.ptr i o)) (fun i o=>qo i fun i=>qo o fun o=>k (.lp i o)) (fun cs=>k (.box cs)) (fun x=>k (.cp x))
  (fun i o n c=>k (.rs i o n c)) (fun i o n=>qo i fun i=>qo o fun o=>qo n fun n=>k (.row i o n)) (fun i=>qo i fun i=>k (.map i)) (fun f a b=>k (.fn f a b)) (fun t x=>k (.ifc t x)) (fun cs=>k (.agg cs)) (fun vs=>k (.tup vs)) (k .undef)
theorem zy {α:Type} (v:V) (k:V→α):jI v k=k v:=by
 cases v with
 | d x=>exact qcf x fun x=>k (.d x)
 | _=>simp only [jI,kr]
noncomputable def qds {α:Type} (v:V) (k:V→α):α:=
 V.casesOn (motive_1:=fun _=>α) v (fun x=>qmX x fun x=>k (.d x)) (fun xs=>zU qi8 xs fun xs=>k (.osl xs)) (fun xs=>zU qi8 xs fun xs=>k (.fsl xs)) (fun i o=>qo i fun i=>qo o fun o=>k (.ptr i o)) (fun i o=>qo i fun i=>qo o fun o=>k (.lp i o)) (fun cs=>zU jI cs fun cs=>k (.box cs)) (fun x=>qi8 x fun x=>k (.cp x))
  (fun i o n c=>qo i fun i=>qo o fun o=>qo n fun n=>qo c fun c=>k (.rs i o n c)) (fun i o n=>qo i fun i=>qo o fun o=>qo n fun n=>k (.row i o n)) (fun i=>qo i fun i=>k (.map i)) (fun f a b=>qo f fun f=>k (.fn f a b)) (fun t x=>k (.ifc t x)) (fun cs=>zU jI cs fun cs=>k (.agg cs)) (fun vs=>zU jI vs fun vs=>k (.tup vs)) (k .undef)
theorem qcl {α:Type} (v:V) (k:V→α):qds v k=k v:=by
 cases v with
 | d x=>exact qe0 x fun x=>k (.d x)
 | osl xs=>exact kp qcf xs fun xs=>k (.osl xs)
 | fsl xs=>exact kp qcf xs fun xs=>k (.fsl xs)
 | box cs=>exact kp zy cs fun cs=>k (.box cs)
 | cp x=>exact qcf x fun x=>k (.cp x)
 | agg cs=>exact kp zy cs fun cs=>k (.agg cs)
 | tup cs=>exact kp zy cs fun cs=>k (.tup cs)
 | _=>simp only [qds,kr]
noncomputable def qAK {α:Type} (o:Obj) (k:Obj→α):α:=
 Obj.casesOn (motive:=fun _=>α) o (fun cs=>zU jI cs fun cs=>k (.cells cs)) (fun es=>zU (fun p k=>jI p.2 fun v=>k (p.1,v)) es fun es=>k (.map es)) (fun l cs=>zU jI cs fun cs=>k (.row l cs)) (k .dead) (fun i=>qo i fun i=>k (.iter i))
theorem qym {α:Type} (o:Obj) (k:Obj→α):qAK o k=k o:=by
 cases o with
 | cells cs=>exact kp zy cs fun cs=>k (.cells cs)
 | map es=>exact kp (fun p k=>zy p.2 fun v=>k (p.1,v)) es fun es=>k (.map es)
 | row l cs=>exact kp zy cs fun cs=>k (.row l cs)
 | dead=>rfl
 | iter i=>exact kr i fun i=>k (.iter i)
noncomputable def qAw {α:Type} (H:List Obj) (k:List Obj→α):α:=zU (fun o k=>qAK o k) H k
theorem qyS {α:Type} (H:List Obj) (k:List Obj→α):qAw H k=k H:=kp qym _ _
noncomputable def qvZ {α:Type} (o:Obj) (k:Obj→α):α:=
 Obj.casesOn (motive:=fun _=>α) o (fun cs=>zU jI cs fun cs=>k (.cells cs)) (fun es=>zU (fun p k=>jI p.2 fun v=>k (p.1,v)) es fun es=>k (.map es)) (fun l cs=>zU (fun v k=>k v) cs fun cs=>k (.row l cs)) (k .dead) (fun i=>qo i fun i=>k (.iter i))
theorem qzA {α:Type} (o:Obj) (k:Obj→α):qvZ o k=k o:=by
 cases o with
 | cells cs=>exact kp zy cs fun cs=>k (.cells cs)
 | map es=>exact kp (fun p k=>zy p.2 fun v=>k (p.1,v)) es fun es=>k (.map es)
 | row l cs=>exact kp (fun _ _=>rfl) cs fun cs=>k (.row l cs)
 | dead=>rfl
 | iter i=>exact kr i fun i=>k (.iter i)
noncomputable def qCd (l:List Obj):Bool:=List.rec (motive:=fun _=>Bool) true (fun _ _ _=>false) l
noncomputable def qoj {α:Type} (f:Obj→(Obj→α)→α) (H:List Obj) (k:List Obj→α):α:=
 List.rec (motive:=fun _=>(List Obj→α)→α) (fun k=>k []) (fun o t ih k=>Bool.rec (motive:=fun _=>α) (f o fun o=>ih fun t=>k (o::t)) (qvZ o fun o=>k [o]) (qCd t)) H k
theorem qvP {α:Type} {f:Obj→(Obj→α)→α} (hf:∀o k,f o k=k o) (H:List Obj) (k:List Obj→α):qoj f H k=k H:=by
 induction H generalizing k with
 | nil=>rfl
 | cons o t ih=>
  show Bool.rec (motive:=fun _=>α) (f o fun o=>qoj f t fun t=>k (o::t)) (qvZ o fun o=>k [o]) (qCd t)=_
  cases t with
  | nil=>exact qzA o fun o=>k [o]
  | cons o' t=>
   show (f o fun o=>qoj f (o'::t) fun t=>k (o::t))=_
   rw [hf,ih]
noncomputable def qqc {α:Type} (H:List Obj) (k:List Obj→α):α:=qoj (fun o k=>k o) H k
theorem qrY {α:Type} (H:List Obj) (k:List Obj→α):qqc H k=k H:=qvP (fun _ _=>rfl) H k
noncomputable def qxK (l:L) (off:Nat) (cs:List V):Option V:=Bool.rec (motive:=fun _=>Option V) ((fnth cs off).map zB) (V.part off l cs) l.agg
noncomputable def qtk (l:L) (st:St) (v:V):Option V:=
 match v with
 | .lp s off=>match fget s st.env with
  | .box cs=>qxK l off cs
  | _=>none
 | .ptr id off=>match fnth st.H id with
  | some (.cells cs)=>qxK l off cs
  | some (.row _ cs)=>qxK l off cs
  | _=>none
 | v=>qC l st v
theorem qGT (l:L) (off:Nat) (cs:List V):qxK l off cs=V.part off l cs:=by
 obtain ⟨n,agg⟩:=l
 cases agg with
 | true=>rfl
 | false=>show (fnth cs off).map zB=_;rw [zH];simp [V.part]
theorem qvY:qtk=qC:=by
 funext l st v
 cases v<;>simp only [qtk,qGT,yI,zH]<;>rfl
noncomputable def qG4 (x:O) (st:St):Option Or:=ok (frd st.env x) {st with env:=spent x st.env}
noncomputable def qBR (c:O) (a:O) (b:O) (st:St):Option Or:=
 match frd st.env c with
  | .d (.b z)=>ok (Bool.rec (motive:=fun _=>V) (frd st.env b) (frd st.env a) z) st
  | _=>none
noncomputable def qCb (mv:Bool) (sl:Option Nat) (l:L) (a:O) (st:St):Option Or:=
 Bool.rec (motive:=fun _=>Option Or) (bif !qD sl (frd st.env a) then none else (match qtk l st (frd st.env a) with|some v=>ok v st|none=>none)) (zD true sl l a st) mv
noncomputable def qow (x:O) (st:St):Option Or:=
 match frd st.env x with
  | .ptr id off=>ok (.ptr id off) st
  | .lp s off=>ok (.lp s off) st
  | .cp y=>ok (.cp y) st
  | _=>none
noncomputable def qJa (op:BinOp) (kd:Kd) (x:O) (y:O) (st:St):Option Or:=
 match yu op kd (isC x || isC y) (frd st.env x) (frd st.env y) with
  | some v=>ok v st
  | none=>none
noncomputable def qmM (x:O) (off:Nat) (l:L) (st:St):Option Or:=
 match frd st.env x with
  | .ptr id o=>ok (.ptr id (o+off)) st
  | .lp s o=>ok (.lp s (o+off)) st
  | _=>qW x off l st
noncomputable def qmY (x:O) (i:O) (size:Nat) (arr:Option Nat) (st:St):Option Or:=
 match frd st.env i with
  | .d (.i _ n)=>match arr with
   | some len=>bif leI 0 n && !leI len n then (match frd st.env x with
    | .ptr id o=>ok (.ptr id (o+n.toNat * size)) st
    | .lp s o=>ok (.lp s (o+n.toNat * size)) st
    | .cp (.agg cs)=>bif qM8 size 1 then (match fnth cs n.toNat with
     | some y=>if y.one then ok (.cp y) st else none
     | none=>none) else none
    | _=>none) else none
   | none=>bif leI 0 n then (match frd st.env x with
    | .d (.sl xs)=>match fnth xs n.toNat with
     | some y=>bif qM8 y.cells.length size then ok (.cp y) st else none
     | none=>none
    | .rs id o len _=>bif !leI len n && qM8 size 1 then ok (.ptr id (o+n.toNat)) st else none
    | .row id sz len=>bif !leI len n && qM8 size sz then ok (.ptr id (n.toNat * sz)) st else none
    | _=>none) else none
  | _=>none
noncomputable def qw2 (x:O) (i:O) (st:St):Option Or:=
 match frd st.env x,frd st.env i with
  | .d (.s t),.d (.i _ n)=>bif leI 0 n then (match fnth t n.toNat with
    | some y=>ok (.d (.i .u8 y)) st
    | none=>none) else none
  | _,_=>none
noncomputable def qq4 (x:O) (i:Nat) (st:St):Option Or:=
 match x with
  | .t n=>match fget n st.env with
   | .tup vs=>match fnth vs i with
    | some v=>ok (copy v) st
    | none=>none
   | _=>none
  | _=>none
noncomputable def z5 {α:Type} (l:List α):Nat:=List.rec (motive:=fun _=>Nat) 0 (fun _ _ ih=>Nat.succ ih) l
theorem kh {α:Type} (l:List α):z5 l=l.length:=by
 induction l with
 | nil=>rfl
 | cons x l ih=>simp only [List.length_cons,←ih];rfl
noncomputable def qFw (x:O) (st:St):Option Or:=
 match frd st.env x with
  | .d (.s t)=>ok (.d (.i .i64 (z5 t))) st
  | _=>none
noncomputable def qFv (x:O) (st:St):Option Or:=
 match frd st.env x with
  | .d .nil=>ok (.d (.i .i64 0)) st
  | .d (.sl xs)=>ok (.d (.i .i64 (z5 xs))) st
  | .rs _ _ n _=>ok (.d (.i .i64 n)) st
  | .row _ _ n=>ok (.d (.i .i64 n)) st
  | _=>none
noncomputable def fBi (b:Bi) (args:List O) (st:St):Option Or:=
 match b,args with
  | .lenS,[x]=>qFw x st
  | .lenL,[x]=>qFv x st
  | b,l=>eBi b l st
noncomputable def qfz (call:Call) (k:OpK) (st:St):Option Or:=
 match k with
 | .mov x=>qG4 x st
 | .pick c a b=>qBR c a b st
 | .load mv sl l a=>qCb mv sl l a st
 | .nilCheck x=>qow x st
 | .bin op kd x y=>qJa op kd x y st
 | .fieldAddr x off l=>qmM x off l st
 | .indexAddr x i size arr=>qmY x i size arr st
 | .index x i=>qw2 x i st
 | .extract x i=>qq4 x i st
 | .bi b args=>fBi b args st
 | k=>qa call k st
theorem qzg:qfz=qa:=by
 funext call k st
 cases k with
 | mov x=>simp only [qfz,qG4,yS];rfl
 | pick c a b=>
  simp only [qfz,qBR,yS,qa,qfp]
  cases rd st.env c with
  | d w=>cases w with
   | b z=>cases z<;>rfl
   | _=>rfl
  | _=>rfl
 | load mv sl l a=>cases mv<;>simp only [qfz,qCb,yS,qvY]<;>rfl
 | nilCheck x=>simp only [qfz,qow,yS];rfl
 | bin op kd x y=>simp only [qfz,qJa,yS];rfl
 | fieldAddr x off l=>
  simp only [qfz,qmM,yS,qa]
  split<;>rename_i h<;>(try simp only [qW,h])
 | indexAddr x i size arr=>simp only [qfz,qmY,yS,zH];rfl
 | index x i=>simp only [qfz,qw2,yS,zH];rfl
 | extract x i=>simp only [qfz,qq4,yI,zH];rfl
 | bi b args=>
  simp only [qfz,fBi,qa]
  split
  ·rename_i x;simp only [qFw,yS,kh];rfl
  ·rename_i x
   simp only [qFv,yS,kh]
   show _=qcB x st
   unfold qcB
   cases rd st.env x with
   | d w=>cases w<;>rfl
   | _=>rfl
  ·rfl
 | _=>rfl
noncomputable def makes (k:OpK):Bool:=
 match k with
 | .mov _=>false
 | .load _ _ _ _=>false
 | .extract _ _=>false
 | .pick _ _ _=>false
 | .nilCheck _=>false
 | .store _ _ _ _=>false
 | .call _ _=>false
 | .indexAddr _ _ _ _=>false
 | .fieldAddr _ _ _=>false
 | .field _ _ _=>false
 | _=>true
noncomputable def qrq {α:Type} (m:Bool) (v:V) (k:V→α):α:=Bool.rec (motive:=fun _=>α) (jI v k) (qds v k) m
theorem qsa {α:Type} (m:Bool) (v:V) (k:V→α):qrq m v k=k v:=by
 cases m
 ·exact zy v k
 ·exact qcl v k
end W
/-
  Code turned into closures, which the kernel works out once; each operation its own closure.
-/
set_option linter.unusedSimpArgs false
set_option linter.unusedVariables false
namespace W
open Go (IntKind BinOp UnOp)
abbrev R:=Option (Ex × St)
abbrev KF:=Call→Nat→Env→List Obj→Nat→R
inductive K where
 | mk (f:KF)
noncomputable def K.run (k:K):KF:=K.rec (motive:=fun _=>KF) (fun f=>f) k
inductive KO where
 | mk (f:Env→V)
noncomputable def KO.run (k:KO):Env→V:=KO.rec (motive:=fun _=>Env→V) (fun f=>f) k
noncomputable def kF (o:O):KO:=O.rec (motive:=fun _=>KO) (fun n=>.mk fun e=>fget n e) (fun x=>.mk fun _=>.d x) (fun i=>.mk fun _=>.fn i [] []) (fun n=>.mk fun e=>qjG (fget n e)) (fun _ x=>.mk fun _=>.cp x) o
def V.isBox:V→Bool
 | .box _=>true
 | _=>false
def V.pl:V→Prop
 | .box _=>False
 | .osl _=>False
 | .agg _=>False
 | _=>True
theorem ki {o:O} {e:Env} (h:((kF o).run e).pl):rd e o=(kF o).run e:=by
 cases o with
 | t n=>
  have h:(fget n e).pl:=h
  show qgY n (get n e)=fget n e
  rw [←yI]
  cases hv:fget n e<;>rw [hv] at h<;>first|rfl|exact h.elim
 | mv n=>
  show qjG (get n e)=qjG (fget n e)
  rw [yI]
 | _=>rfl
inductive OI where
 | no
 | yes (k:IntKind) (n:Int)
noncomputable def vI (v:V):OI:=V.rec (motive_1:=fun _=>OI) (motive_2:=fun _=>OI) (fun x=>D.rec (motive_1:=fun _=>OI) (motive_2:=fun _=>OI) (fun _=>.no) (fun k n=>.yes k n) (fun _=>.no) .no (fun _ _=>.no) (fun _ _=>.no) .no .no .no .no .no (fun _ _ _ _=>.no) x) (fun _=>.no) (fun _=>.no) (fun _ _=>.no) (fun _ _=>.no) (fun _ _=>.no) (fun _=>.no) (fun _ _ _ _=>.no) (fun _ _ _=>.no) (fun _=>.no) (fun _ _ _ _ _=>.no) (fun _ _ _=>.no) (fun _ _=>.no) (fun _ _=>.no) .no .no (fun _ _ _ _=>.no) v
theorem qfv {v:V} {k:IntKind} {n:Int} (h:vI v=.yes k n):v=.d (.i k n):=by
 cases v with
 | d x=>cases x with
  | i k' n'=>have h:OI.yes k' n'=.yes k n:=h;cases h;rfl
  | _=>cases h
 | _=>cases h
inductive OB where
 | no|f|t
noncomputable def vB (v:V):OB:=V.rec (motive_1:=fun _=>OB) (motive_2:=fun _=>OB) (fun x=>D.rec (motive_1:=fun _=>OB) (motive_2:=fun _=>OB) (fun y=>Bool.rec (motive:=fun _=>OB) .f .t y) (fun _ _=>.no) (fun _=>.no) .no (fun _ _=>.no) (fun _ _=>.no) .no .no .no .no .no (fun _ _ _ _=>.no) x) (fun _=>.no) (fun _=>.no) (fun _ _=>.no) (fun _ _=>.no) (fun _ _=>.no) (fun _=>.no) (fun _ _ _ _=>.no) (fun _ _ _=>.no) (fun _=>.no) (fun _ _ _ _ _=>.no) (fun _ _ _=>.no) (fun _ _=>.no) (fun _ _=>.no) .no .no (fun _ _ _ _=>.no) v
theorem qMm {v:V} (h:vB v=.t):v=.d (.b true):=by
 cases v with
 | d x=>cases x with
  | b y=>cases y with
   | true=>rfl
   | false=>cases h
  | _=>cases h
 | _=>cases h
theorem qMo {v:V} (h:vB v=.f):v=.d (.b false):=by
 cases v with
 | d x=>cases x with
  | b y=>cases y with
   | false=>rfl
   | true=>cases h
  | _=>cases h
 | _=>cases h
inductive OP where
 | no
 | p (id off:Nat)
 | l (s off:Nat)
 | c (x:D)
noncomputable def vP (v:V):OP:=V.rec (motive_1:=fun _=>OP) (motive_2:=fun _=>OP) (fun _=>.no) (fun _=>.no) (fun _=>.no) (fun a b=>.p a b) (fun a b=>.l a b) (fun _ _=>.no) (fun x=>.c x) (fun _ _ _ _=>.no) (fun _ _ _=>.no) (fun _=>.no) (fun _ _ _ _ _=>.no) (fun _ _ _=>.no) (fun _ _=>.no) (fun _ _=>.no) .no .no (fun _ _ _ _=>.no) v
theorem qLk {v:V} {a b:Nat} (h:vP v=.p a b):v=.ptr a b:=by
 cases v with
 | ptr c d=>have h:OP.p c d=.p a b:=h;cases h;rfl
 | _=>cases h
theorem qMF {v:V} {a b:Nat} (h:vP v=.l a b):v=.lp a b:=by
 cases v with
 | lp c d=>have h:OP.l c d=.l a b:=h;cases h;rfl
 | _=>cases h
theorem qMK {v:V} {x:D} (h:vP v=.c x):v=.cp x:=by
 cases v with
 | cp y=>have h:OP.c y=.c x:=h;cases h;rfl
 | _=>cases h
inductive OL where
 | no|nil
 | sl (xs:List D)
noncomputable def vL (v:V):OL:=V.rec (motive_1:=fun _=>OL) (motive_2:=fun _=>OL) (fun x=>D.rec (motive_1:=fun _=>OL) (motive_2:=fun _=>OL) (fun _=>.no) (fun _ _=>.no) (fun _=>.no) .nil (fun xs _=>.sl xs) (fun _ _=>.no) .no .no .no .no .no (fun _ _ _ _=>.no) x) (fun _=>.no) (fun _=>.no) (fun _ _=>.no) (fun _ _=>.no) (fun _ _=>.no) (fun _=>.no) (fun _ _ _ _=>.no) (fun _ _ _=>.no) (fun _=>.no) (fun _ _ _ _ _=>.no) (fun _ _ _=>.no) (fun _ _=>.no) (fun _ _=>.no) .no .no (fun _ _ _ _=>.no) v
theorem qIt {v:V} (h:vL v=.nil):v=.d .nil:=by
 cases v with
 | d x=>cases x with
  | nil=>rfl
  | _=>cases h
 | _=>cases h
theorem qBa {v:V} {xs:List D} (h:vL v=.sl xs):v=.d (.sl xs):=by
 cases v with
 | d x=>cases x with
  | sl ys=>have h:OL.sl ys=.sl xs:=h;cases h;rfl
  | _=>cases h
 | _=>cases h
inductive OT where
 | no
 | s (t:List Nat)
noncomputable def vT (v:V):OT:=V.rec (motive_1:=fun _=>OT) (motive_2:=fun _=>OT) (fun x=>D.rec (motive_1:=fun _=>OT) (motive_2:=fun _=>OT) (fun _=>.no) (fun _ _=>.no) (fun t=>.s t) .no (fun _ _=>.no) (fun _ _=>.no) .no .no .no .no .no (fun _ _ _ _=>.no) x) (fun _=>.no) (fun _=>.no) (fun _ _=>.no) (fun _ _=>.no) (fun _ _=>.no) (fun _=>.no) (fun _ _ _ _=>.no) (fun _ _ _=>.no) (fun _=>.no) (fun _ _ _ _ _=>.no) (fun _ _ _=>.no) (fun _ _=>.no) (fun _ _=>.no) .no .no (fun _ _ _ _=>.no) v
theorem qoK {v:V} {t:List Nat} (h:vT v=.s t):v=.d (.s t):=by
 cases v with
 | d x=>cases x with
  | s u=>have h:OT.s u=.s t:=h;cases h;rfl
  | _=>cases h
 | _=>cases h
inductive OU where
 | no
 | t (vs:List V)
noncomputable def vU (v:V):OU:=V.rec (motive_1:=fun _=>OU) (motive_2:=fun _=>OU) (fun _=>.no) (fun _=>.no) (fun _=>.no) (fun _ _=>.no) (fun _ _=>.no) (fun _ _=>.no) (fun _=>.no) (fun _ _ _ _=>.no) (fun _ _ _=>.no) (fun _=>.no) (fun _ _ _ _ _=>.no) (fun _ _ _=>.no) (fun _ _=>.no) (fun vs _=>.t vs) .no .no (fun _ _ _ _=>.no) v
theorem qMV {v:V} {vs:List V} (h:vU v=.t vs):v=.tup vs:=by
 cases v with
 | tup ws=>have h:OU.t ws=.t vs:=h;cases h;rfl
 | _=>cases h
inductive OF where
 | no
 | f (i:Nat)
noncomputable def vF (v:V):OF:=V.rec (motive_1:=fun _=>OF) (motive_2:=fun _=>OF) (fun _=>.no) (fun _=>.no) (fun _=>.no) (fun _ _=>.no) (fun _ _=>.no) (fun _ _=>.no) (fun _=>.no) (fun _ _ _ _=>.no) (fun _ _ _=>.no) (fun _=>.no) (fun f a b _ _=>List.rec (motive:=fun _=>OF) (List.rec (motive:=fun _=>OF) (.f f) (fun _ _ _=>.no) b) (fun _ _ _=>.no) a) (fun _ _ _=>.no) (fun _ _=>.no) (fun _ _=>.no) .no .no (fun _ _ _ _=>.no) v
theorem qM1 {v:V} {i:Nat} (h:vF v=.f i):v=.fn i [] []:=by
 cases v with
 | fn f a b=>cases a with
  | nil=>cases b with
   | nil=>have h:OF.f f=.f i:=h;cases h;rfl
   | cons _ _=>cases h
  | cons _ _=>cases h
 | _=>cases h
noncomputable def qFx (m:Nat) (v:V) (κ:V→R):R:=V.rec (motive_1:=fun _=>R) (motive_2:=fun _=>R) (fun x=>κ (.d x)) (fun xs=>κ (.d (.sl xs))) (fun xs=>κ (.fsl xs)) (fun a b=>κ (.ptr a b)) (fun a b=>κ (.lp a b)) (fun _ _=>κ (.lp m 0)) (fun x=>κ (.cp x)) (fun a b c d=>κ (.rs a b c d)) (fun a b c=>κ (.row a b c)) (fun a=>κ (.map a)) (fun f a b _ _=>κ (.fn f a b)) (fun t x _=>κ (.ifc t x)) (fun cs _=>qds (qfU (cs.map zB)) κ) (fun vs _=>κ (.tup vs)) (κ .undef) none (fun _ _ _ _=>none) v
theorem qB8 (m:Nat) (v:V) (κ:V→R):qFx m v κ=κ (qgY m v):=by
 cases v with
 | agg cs=>exact qcl _ _
 | _=>rfl
noncomputable def qFC (v:V) (κ:V→R):R:=V.rec (motive_1:=fun _=>R) (motive_2:=fun _=>R) (fun x=>κ (.d x)) (fun xs=>κ (.osl xs)) (fun xs=>κ (.fsl xs)) (fun a b=>κ (.ptr a b)) (fun a b=>κ (.lp a b)) (fun _ _=>κ .undef) (fun x=>κ (.cp x)) (fun a b c d=>κ (.rs a b c d)) (fun a b c=>κ (.row a b c)) (fun a=>κ (.map a)) (fun f a b _ _=>κ (.fn f a b)) (fun t x _=>κ (.ifc t x)) (fun cs _=>κ (.agg cs)) (fun vs _=>κ (.tup vs)) (κ .undef) none (fun _ _ _ _=>none) v
theorem qB6 (v:V) (κ:V→R):qFC v κ=κ (qjG v):=by cases v<;>rfl
noncomputable def qCk (v:V) (κ:V→R):R:=V.rec (motive_1:=fun _=>R) (motive_2:=fun _=>R) (fun x=>κ (.d x)) (fun xs=>κ (.osl xs)) (fun xs=>κ (.fsl xs)) (fun a b=>κ (.ptr a b)) (fun _ _=>κ .undef) (fun cs _=>κ (.box cs)) (fun x=>κ (.cp x)) (fun a b c d=>κ (.rs a b c d)) (fun a b c=>κ (.row a b c)) (fun a=>κ (.map a)) (fun f a b _ _=>κ (.fn f a b)) (fun t x _=>κ (.ifc t x)) (fun cs _=>κ (.agg cs)) (fun vs _=>κ (.tup vs)) (κ .undef) none (fun _ _ _ _=>none) v
theorem qCi (v:V) (κ:V→R):qCk v κ=κ (match v with | .lp _ _=>.undef|v=>v):=by cases v<;>rfl
noncomputable def qFr (v:V) (κ:V→R):R:=V.rec (motive_1:=fun _=>R) (motive_2:=fun _=>R) (fun x=>κ (.d x)) (fun xs=>κ (.d (.sl xs))) (fun xs=>κ (.fsl xs)) (fun a b=>κ (.ptr a b)) (fun a b=>κ (.lp a b)) (fun _ _=>none) (fun x=>κ (.cp x)) (fun a b c d=>κ (.rs a b c d)) (fun a b c=>κ (.row a b c)) (fun a=>κ (.map a)) (fun f a b _ _=>κ (.fn f a b)) (fun t x _=>κ (.ifc t x)) (fun cs _=>κ (.agg cs)) (fun vs _=>κ (.tup vs)) (κ .undef) none (fun _ _ _ _=>none) v
theorem qxf {v:V} {κ:V→R} {x:Ex × St} (h:qFr v κ=some x):(zB v).isBox=false∧κ (zB v)=some x:=by
 cases v<;>first|exact ⟨rfl,h⟩|cases h
theorem qoI (cs:List V):(qfU cs).isBox=false:=by unfold qfU;split<;>rfl
noncomputable def qxC (v:V) (κ:V→R):R:=V.rec (motive_1:=fun _=>R) (motive_2:=fun _=>R) (fun x=>κ (.d x)) (fun xs=>κ (.d (.sl xs))) (fun xs=>κ (.fsl xs)) (fun a b=>κ (.ptr a b)) (fun a b=>κ (.lp a b)) (fun _ _=>none) (fun x=>κ (.cp x)) (fun a b c d=>κ (.rs a b c d)) (fun a b c=>κ (.row a b c)) (fun a=>κ (.map a)) (fun f a b _ _=>κ (.fn f a b)) (fun t x _=>κ (.ifc t x)) (fun cs _=>qds (qfU (cs.map zB)) κ) (fun vs _=>κ (.tup vs)) (κ .undef) none (fun _ _ _ _=>none) v
theorem qmZ {v:V} {κ:V→R} {x:Ex × St} (h:qxC v κ=some x):(copy v).isBox=false∧κ (copy v)=some x:=by
 cases v with
 | agg cs=>
  have h:qds (qfU (cs.map zB)) κ=some x:=h
  rw [qcl] at h
  exact ⟨qoI _,h⟩
 | box cs=>cases h
 | _=>exact ⟨rfl,h⟩
noncomputable def qkT (v:V) (z:R) (κ:V→R):R:=V.rec (motive_1:=fun _=>R) (motive_2:=fun _=>R) (fun x=>κ (.d x)) (fun xs=>κ (.osl xs)) (fun xs=>κ (.fsl xs)) (fun a b=>κ (.ptr a b)) (fun a b=>κ (.lp a b)) (fun _ _=>z) (fun x=>κ (.cp x)) (fun a b c d=>κ (.rs a b c d)) (fun a b c=>κ (.row a b c)) (fun a=>κ (.map a)) (fun f a b _ _=>κ (.fn f a b)) (fun t x _=>κ (.ifc t x)) (fun cs _=>κ (.agg cs)) (fun vs _=>κ (.tup vs)) (κ .undef) none (fun _ _ _ _=>none) v
noncomputable def qtx (v:V) (z:R) (κ:V→R):R:=V.rec (motive_1:=fun _=>R) (motive_2:=fun _=>R) (fun x=>κ (.d x)) (fun xs=>κ (.osl xs)) (fun xs=>κ (.fsl xs)) (fun a b=>κ (.ptr a b)) (fun _ _=>z) (fun _ _=>z) (fun x=>κ (.cp x)) (fun a b c d=>κ (.rs a b c d)) (fun a b c=>κ (.row a b c)) (fun a=>κ (.map a)) (fun f a b _ _=>κ (.fn f a b)) (fun t x _=>κ (.ifc t x)) (fun cs _=>κ (.agg cs)) (fun vs _=>κ (.tup vs)) (κ .undef) none (fun _ _ _ _=>none) v
theorem qvx {v:V} {κ:V→R} {x:Ex × St} (h:qtx v none κ=some x):v.isBox=false∧(∀m o,v≠.lp m o)∧κ v=some x:=by
 cases v<;>first|exact ⟨rfl,nofun,h⟩|cases h
theorem qkU {v:V} {z:R} {κ:V→R} {x:Ex × St} (h:qkT v z κ=some x):z=some x∨(v.isBox=false∧κ v=some x):=by
 cases v<;>first|exact .inr ⟨rfl,h⟩|exact .inl h
inductive KR where
 | mk (f:Env→(V→R)→R)
noncomputable def KR.run (k:KR):Env→(V→R)→R:=KR.rec (motive:=fun _=>Env→(V→R)→R) (fun f=>f) k
noncomputable def rdC (o:O):KR:=O.rec (motive:=fun _=>KR) (fun n=>.mk fun e κ=>qFx n (fget n e) κ) (fun x=>.mk fun _ κ=>κ (.d x)) (fun i=>.mk fun _ κ=>κ (.fn i [] [])) (fun n=>.mk fun e κ=>qFC (fget n e) κ) (fun _ x=>.mk fun _ κ=>κ (.cp x)) o
theorem qht (o:O) (e:Env) (κ:V→R):(rdC o).run e κ=κ (rd e o):=by
 cases o with
 | t n=>exact (qB8 n (fget n e) κ).trans (by rw [yI];rfl)
 | mv n=>exact (qB6 (fget n e) κ).trans (by rw [yI];rfl)
 | _=>rfl
inductive KE where
 | mk (f:Env→Env)
noncomputable def KE.run (k:KE):Env→Env:=KE.rec (motive:=fun _=>Env→Env) (fun f=>f) k
noncomputable def spC (o:O) (r:KE):KE:=O.rec (motive:=fun _=>KE) (fun _=>r) (fun _=>r) (fun _=>r) (fun n=>.mk fun e=>r.run ((n,.undef)::e)) (fun _ _=>r) o
noncomputable def spL (l:List O):KE:=List.rec (motive:=fun _=>KE) (.mk fun e=>e) (fun o _ ih=>spC o ih) l
theorem qv6 (l:List O) (e:Env):(spL l).run e=spentAll l e:=by
 induction l generalizing e with
 | nil=>rfl
 | cons o l ih=>
  show (spC o (spL l)).run e=spentAll l (spent o e)
  cases o<;>first|exact ih _|exact ih e
noncomputable def spO (o:O):KE:=spC o (.mk fun e=>e)
theorem qmQ (o:O) (e:Env):(spO o).run e=spent o e:=by cases o<;>rfl
inductive KA where
 | mk (f:Env→(List V→R)→R)
noncomputable def KA.run (k:KA):Env→(List V→R)→R:=KA.rec (motive:=fun _=>Env→(List V→R)→R) (fun f=>f) k
noncomputable def qAF (l:List O):KA:=List.rec (motive:=fun _=>KA) (.mk fun _ κ=>κ []) (fun o _ ih=>.mk fun e κ=>(rdC o).run e fun v=>ih.run e fun r=>κ (v::r)) l
theorem qtL (l:List O) (e:Env) (κ:List V→R):(qAF l).run e κ=κ (l.map (rd e)):=by
 induction l generalizing κ with
 | nil=>rfl
 | cons o l ih=>
  show (rdC o).run e (fun v=>(qAF l).run e fun r=>κ (v::r))=_
  rw [qht,ih];rfl
noncomputable def iadd (a b:Int):Int:=Int.rec (motive:=fun _=>Int) (fun m=>Int.rec (motive:=fun _=>Int) (fun n=>.ofNat (Nat.add m n)) (fun n=>a+b) b) (fun _=>a+b) a
theorem qD3 (a b:Int):iadd a b=a+b:=by cases a<;>cases b<;>rfl
noncomputable def imul (a b:Int):Int:=Int.rec (motive:=fun _=>Int) (fun m=>Int.rec (motive:=fun _=>Int) (fun n=>.ofNat (Nat.mul m n)) (fun n=>a * b) b) (fun _=>a * b) a
theorem qFb (a b:Int):imul a b=a * b:=by cases a<;>cases b<;>rfl
noncomputable def isub (a b:Int):Int:=Int.rec (motive:=fun _=>Int) (fun m=>Int.rec (motive:=fun _=>Int) (fun n=>Bool.rec (motive:=fun _=>Int) (a - b) (.ofNat (Nat.sub m n)) (Nat.ble n m)) (fun n=>a - b) b) (fun _=>a - b) a
theorem qFk (a b:Int):isub a b=a - b:=by
 cases a with
 | ofNat m=>cases b with
  | ofNat n=>
   show Bool.rec (motive:=fun _=>Int) (Int.ofNat m - Int.ofNat n) (Int.ofNat (Nat.sub m n)) (Nat.ble n m)=_
   cases h:Nat.ble n m with
   | false=>rfl
   | true=>
    have:=Nat.le_of_ble_eq_true h
    show Int.ofNat (m - n)=Int.ofNat m - Int.ofNat n
    simp only [Int.ofNat_eq_natCast];omega
  | negSucc n=>rfl
 | negSucc m=>rfl
noncomputable def ile (a b:Int):Bool:=Int.rec (motive:=fun _=>Bool) (fun m=>Int.rec (motive:=fun _=>Bool) (fun n=>Nat.ble m n) (fun _=>false) b) (fun m=>Int.rec (motive:=fun _=>Bool) (fun _=>true) (fun n=>Nat.ble n m) b) a
theorem qsL (a b:Int):ile a b=leI a b:=by cases a<;>cases b<;>rfl
noncomputable def ieq (a b:Int):Bool:=Int.rec (motive:=fun _=>Bool) (fun m=>Int.rec (motive:=fun _=>Bool) (fun n=>qM8 m n) (fun _=>false) b) (fun m=>Int.rec (motive:=fun _=>Bool) (fun _=>false) (fun n=>qM8 m n) b) a
theorem qBr (a b:Int):ieq a b=eqI a b:=by cases a<;>cases b<;>rfl
noncomputable def kcode (k:IntKind):Nat:=IntKind.rec (motive:=fun _=>Nat) 0 1 2 3 4 5 6 7 k
theorem quV (a b:IntKind):qM8 (kcode a) (kcode b)=eqK a b:=by cases a<;>cases b<;>rfl
noncomputable def kmax (k:IntKind):Nat:=IntKind.rec (motive:=fun _=>Nat) 127 32767 2147483647 9223372036854775807 255 65535 4294967295 18446744073709551615 k
theorem qDr (k:IntKind):kmax k=qpd k:=by cases k<;>rfl
noncomputable def iwr (k:IntKind) (z:Int):Int:=Int.rec (motive:=fun _=>Int) (fun a=>Bool.rec (motive:=fun _=>Int) (wr k (.ofNat a)) (.ofNat a) (Nat.ble a (kmax k))) (fun a=>wr k (.negSucc a)) z
theorem qGV (k:IntKind) (z:Int):iwr k z=wr k z:=by
 cases z with
 | ofNat a=>
  show Bool.rec (motive:=fun _=>Int) (wr k (.ofNat a)) (.ofNat a) (Nat.ble a (kmax k))=_
  rw [qDr]
  cases h:Nat.ble a (qpd k) with
  | false=>rfl
  | true=>simp only [wr,h,cond_true]
 | negSucc a=>rfl
noncomputable def inot (b:Bool):Bool:=Bool.rec (motive:=fun _=>Bool) true false b
theorem qtm (b:Bool):inot b=!b:=by cases b<;>rfl
def quc (pg:Pg) (r:R) (k:K) (call:Call) (n:Nat) (x:Ex × St):Prop:=(∃s,r=some (.nrm,s)∧k.run call n s.env s.H s.lo=some x)∨(r=some x∧x.1≠.nrm)
def qse (r:Option Or) (dst:Option Nat) (k:K) (call:Call) (n:Nat) (x:Ex × St):Prop:=
 ∃q,r=some q∧((q.pan=false∧∃st,put dst q.v q.st=st∧k.run call n st.env st.H st.lo=some x)∨(q.pan=true∧x=(.pan q.v,q.st)))
def qS (f:KF) (op:OpK) (dst:Option Nat) (k:K):Prop:=∀{call:Call} {n:Nat} {e:Env} {H:List Obj} {lo:Nat} {x:Ex × St},f call n e H lo=some x→qse (qa call op ⟨e,H,lo⟩) dst k call n x
noncomputable def qhZ (dst:Option Nat) (v:V) (k:K):KF:=fun call n e H lo=>match put dst v ⟨e,H,lo⟩ with|⟨e,H,lo⟩=>k.run call n e H lo
theorem qjk {dst:Option Nat} {v:V} {same:Bool} {k:K} {call:Call} {n:Nat} {e:Env} {H:List Obj} {lo:Nat} {x:Ex × St} (h:qhZ dst v k call n e H lo=some x):qse (some ⟨false,same,v,⟨e,H,lo⟩⟩) dst k call n x:=by
 refine ⟨_,rfl,.inl ⟨rfl,_,rfl,?_⟩⟩
 exact h
theorem ql {d:Nat} {v:V} {same:Bool} {k:K} {call:Call} {n:Nat} {e:Env} {H:List Obj} {lo:Nat} {x:Ex × St} (hv:v.isBox=false) (h:k.run call n ((d,v)::e) H lo=some x):qse (some ⟨false,same,v,⟨e,H,lo⟩⟩) (some d) k call n x:=by
 refine ⟨_,rfl,.inl ⟨rfl,_,rfl,?_⟩⟩
 cases v<;>first|exact h|cases hv
inductive KS where
 | mk (f:Call→St→Option Or)
noncomputable def KS.run (k:KS):Call→St→Option Or:=KS.rec (motive:=fun _=>Call→St→Option Or) (fun f=>f) k
noncomputable def qGI (op:OpK):KS:=
 match op with
 | .mov x=>.mk fun _ st=>qG4 x st
 | .pick c a b=>.mk fun _ st=>qBR c a b st
 | .alloc loc zero=>.mk fun _ st=>qf9 loc zero st
 | .box loc x=>.mk fun _ st=>qrG loc x st
 | .build zero parts=>.mk fun _ st=>qcm zero parts st
 | .buildSlice zero len parts=>.mk fun _ st=>kc zero len parts st
 | .load mv sl l a=>.mk fun _ st=>qCb mv sl l a st
 | .loadC l a=>.mk fun _ st=>qcn l a st
 | .store sl l a x=>.mk fun _ st=>yU sl l a x st
 | .nilCheck x=>.mk fun _ st=>qow x st
 | .bin op kd x y=>.mk fun _ st=>qJa op kd x y st
 | .un op x=>.mk fun _ st=>eUn op x st
 | .conv k x=>.mk fun _ st=>qkP k x st
 | .mkFn f first cap=>.mk fun _ st=>qmk f first cap st
 | .sliceS x lo hi=>.mk fun _ st=>jz x lo hi st
 | .fieldAddr x off l=>.mk fun _ st=>qmM x off l st
 | .field x off l=>.mk fun _ st=>qgc x off l st
 | .indexAddr x i size arr=>.mk fun _ st=>qmY x i size arr st
 | .index x i=>.mk fun _ st=>qw2 x i st
 | .lookup kk zero m k c=>.mk fun _ st=>zG kk zero m k c st
 | .mapUpdate kk m k x=>.mk fun _ st=>zx kk m k x st
 | .extract x i=>.mk fun _ st=>qq4 x i st
 | .bi b args=>.mk fun _ st=>fBi b args st
 | .call f args=>.mk fun call st=>jc call f args st
 | op=>.mk fun call st=>qa call op st
theorem qx7 (op:OpK) (call:Call) (st:St):(qGI op).run call st=qa call op st:=by
 rw [←qzg]
 cases op<;>rfl
noncomputable def qnF (op:OpK):Bool:=
 match op with
 | .appendR _ _ _ _ | .truncR _ _ | .zerosR _ _ _ _ _ | .buildR _ _ _ _ | .rangeM _ | .mkMap | .mkSlice _ _ _ | .alloc _ _ | .box _ _ | .bytesRow _ | .buildRow _ _ _ | .cvtR _=>true
 | _=>false
noncomputable def qp6 {α:Type} (b:Bool) (H:List Obj) (k:List Obj→α):α:=Bool.rec (motive:=fun _=>α) (qAw H k) (qqc H k) b
theorem qsk {α:Type} (b:Bool) (H:List Obj) (k:List Obj→α):qp6 b H k=k H:=by cases b;exact qyS _ _;exact qrY _ _
noncomputable def qJl (dst:Option Nat) (op:OpK) (k:K):KF:=fun call n e H lo=>
 match (qGI op).run call ⟨e,H,lo⟩ with
 | some ⟨pan,same,v,⟨e',H',lo'⟩⟩=>Bool.rec (motive:=fun _=>R)
   (qrq (makes op) v fun v=>Bool.rec (motive:=fun _=>R) (qp6 (qnF op) H' fun H'=>qo lo' fun lo'=>qhZ dst v k call n e' H' lo') (qhZ dst v k call n e' H' lo') same)
   (some (.pan v,⟨e',H',lo'⟩)) pan
 | none=>none
theorem qyW {dst:Option Nat} {op:OpK} {k:K}:qS (qJl dst op k) op dst k:=by
 intro call n e H lo x h
 unfold qJl at h
 rw [qx7] at h
 split at h
 ·rename_i pan same v e' H' lo' hq
  rw [hq]
  cases pan with
  | false=>
   have h:(qrq (makes op) v fun v=>Bool.rec (motive:=fun _=>R) (qp6 (qnF op) H' fun H'=>qo lo' fun lo'=>qhZ dst v k call n e' H' lo') (qhZ dst v k call n e' H' lo') same)=some x:=h
   rw [qsa] at h
   have h2:qhZ dst v k call n e' H' lo'=some x:=by
    cases same with
    | false=>simpa only [qsk,kr] using h
    | true=>exact h
   exact qjk h2
  | true=>
   have h:some (Ex.pan v,(⟨e',H',lo'⟩:St))=some x:=h
   cases h
   exact ⟨_,rfl,.inr ⟨rfl,rfl⟩⟩
 ·cases h
noncomputable def asN (v:V) (z:R) (κ:IntKind→Int→R):R:=OI.rec (motive:=fun _=>R) z κ (vI v)
theorem qbm {v:V} {z:R} {κ:IntKind→Int→R} {x:Ex × St} (h:asN v z κ=some x):z=some x∨∃k n,v=.d (.i k n)∧κ k n=some x:=by
 unfold asN at h
 cases hv:vI v with
 | no=>rw [hv] at h;exact .inl h
 | yes k n=>rw [hv] at h;exact .inr ⟨k,n,qfv hv,h⟩
noncomputable def qu5 (d:Nat) (f:Int→Int→Bool) (a b:KO) (g k:K):KF:=fun call n e H lo=>
 asN (a.run e) (g.run call n e H lo) fun ka x=>asN (b.run e) none fun kb y=>Bool.rec (motive:=fun _=>R) none (Bool.rec (motive:=fun _=>R) (k.run call n ((d,.d (.b false))::e) H lo) (k.run call n ((d,.d (.b true))::e) H lo) (f x y)) (qM8 (kcode ka) (kcode kb))
noncomputable def qBJ (d:Nat) (f:Int→Int→Int) (a b:KO) (g k:K):KF:=fun call n e H lo=>
 asN (a.run e) (g.run call n e H lo) fun ka x=>asN (b.run e) none fun kb y=>Bool.rec (motive:=fun _=>R) none (qrl (iwr ka (f x y)) fun z=>k.run call n ((d,.d (.i ka z))::e) H lo) (qM8 (kcode ka) (kcode kb))
theorem qnI {o:O} {e:Env} {k:IntKind} {n:Int} (h:(kF o).run e=.d (.i k n)):rd e o=.d (.i k n):=by
 rw [ki (by rw [h];trivial),h]
theorem qeX {d:Nat} {f:Int→Int→Bool} {op:BinOp} {x y:O} {g k:K} (hop:qcv op=false) (hf:∀kk a b,qhG op kk a b=some (.b (f a b))) (hg:qS g.run (.bin op .num x y) (some d) k):qS (qu5 d f (kF x) (kF y) g k) (.bin op .num x y) (some d) k:=by
 intro call n e H lo z h
 unfold qu5 at h
 rcases qbm h with h|⟨ka,a,ha,h⟩
 ·exact hg h
 rcases qbm h with h|⟨kb,b,hb,h⟩
 ·cases h
 rw [quV] at h
 cases hk:eqK ka kb with
 | false=>rw [hk] at h;cases h
 | true=>
  rw [hk] at h
  have he:qa call (.bin op .num x y) ⟨e,H,lo⟩=some ⟨false,true,.d (.b (f a b)),⟨e,H,lo⟩⟩:=by
   simp only [qa,qoY,qnI ha,qnI hb,yu,hop,hk,cond_true,cond_false,hf,qNc,ok]
  rw [he]
  cases hz:f a b with
  | false=>rw [hz] at h;exact ql rfl h
  | true=>rw [hz] at h;exact ql rfl h
theorem qoG {d:Nat} {f:Int→Int→Int} {op:BinOp} {x y:O} {g k:K} (hop:qcv op=false) (hf:∀kk a b,qhG op kk a b=some (.i kk (wr kk (f a b)))) (hg:qS g.run (.bin op .num x y) (some d) k):qS (qBJ d f (kF x) (kF y) g k) (.bin op .num x y) (some d) k:=by
 intro call n e H lo z h
 unfold qBJ at h
 rcases qbm h with h|⟨ka,a,ha,h⟩
 ·exact hg h
 rcases qbm h with h|⟨kb,b,hb,h⟩
 ·cases h
 rw [quV] at h
 cases hk:eqK ka kb with
 | false=>rw [hk] at h;cases h
 | true=>
  rw [hk] at h
  have h:(qrl (iwr ka (f a b)) fun z=>k.run call n ((d,.d (.i ka z))::e) H lo)=some z:=h
  rw [qo9,qGV] at h
  have he:qa call (.bin op .num x y) ⟨e,H,lo⟩=some ⟨false,true,.d (.i ka (wr ka (f a b))),⟨e,H,lo⟩⟩:=by
   simp only [qa,qoY,qnI ha,qnI hb,yu,hop,hk,cond_true,cond_false,hf,qNc,ok]
  rw [he]
  exact ql rfl h
noncomputable def gK (dst:Option Nat) (op:OpK) (k:K):K:=.mk (qJl dst op k)
theorem ke {dst:Option Nat} {op:OpK} {k:K}:qS (gK dst op k).run op dst k:=qyW
noncomputable def qJT (d:Nat) (op:BinOp) (kd:Kd) (x y:O) (k:K):K:=
 match op,kd with
 | .add,.num=>.mk (qBJ d iadd (kF x) (kF y) (gK (some d) (.bin .add .num x y) k) k)
 | .sub,.num=>.mk (qBJ d isub (kF x) (kF y) (gK (some d) (.bin .sub .num x y) k) k)
 | .mul,.num=>.mk (qBJ d imul (kF x) (kF y) (gK (some d) (.bin .mul .num x y) k) k)
 | .lss,.num=>.mk (qu5 d (fun a b=>inot (ile b a)) (kF x) (kF y) (gK (some d) (.bin .lss .num x y) k) k)
 | .leq,.num=>.mk (qu5 d ile (kF x) (kF y) (gK (some d) (.bin .leq .num x y) k) k)
 | .gtr,.num=>.mk (qu5 d (fun a b=>inot (ile a b)) (kF x) (kF y) (gK (some d) (.bin .gtr .num x y) k) k)
 | .geq,.num=>.mk (qu5 d (fun a b=>ile b a) (kF x) (kF y) (gK (some d) (.bin .geq .num x y) k) k)
 | .eql,.num=>.mk (qu5 d ieq (kF x) (kF y) (gK (some d) (.bin .eql .num x y) k) k)
 | .neq,.num=>.mk (qu5 d (fun a b=>inot (ieq a b)) (kF x) (kF y) (gK (some d) (.bin .neq .num x y) k) k)
 | op,kd=>gK (some d) (.bin op kd x y) k
theorem qzG {d:Nat} {op:BinOp} {kd:Kd} {x y:O} {k:K}:qS (qJT d op kd x y k).run (.bin op kd x y) (some d) k:=by
 unfold qJT
 split
 ·exact qoG rfl (fun kk a b=>by rw [qD3];rfl) ke
 ·exact qoG rfl (fun kk a b=>by rw [qFk];rfl) ke
 ·exact qoG rfl (fun kk a b=>by rw [qFb];rfl) ke
 ·exact qeX rfl (fun kk a b=>by rw [qtm,qsL];rfl) ke
 ·exact qeX rfl (fun kk a b=>by rw [qsL];rfl) ke
 ·exact qeX rfl (fun kk a b=>by rw [qtm,qsL];rfl) ke
 ·exact qeX rfl (fun kk a b=>by rw [qsL];rfl) ke
 ·exact qeX rfl (fun kk a b=>by rw [qBr];rfl) ke
 ·exact qeX rfl (fun kk a b=>by rw [qtm,qBr];rfl) ke
 ·exact ke
theorem qw3 (m:Nat) (v:V):(qgY m v).isBox=false:=by
 cases v with
 | agg cs=>exact qoI _
 | _=>rfl
theorem qyw (v:V):(qjG v).isBox=false:=by cases v<;>rfl
theorem qwW (e:Env) (o:O):(rd e o).isBox=false:=by
 cases o with
 | t n=>exact qw3 _ _
 | mv n=>exact qyw _
 | _=>rfl
noncomputable def qIk (d:Nat) (x:O) (k:K):KF:=fun call n e H lo=>(rdC x).run e fun v=>k.run call n ((d,v)::(spO x).run e) H lo
theorem qy7 {d:Nat} {x:O} {k:K}:qS (qIk d x k) (.mov x) (some d) k:=by
 intro call n e H lo z h
 unfold qIk at h
 rw [qht,qmQ] at h
 exact ql (qwW e x) h
noncomputable def asP (v:V) (z:R) (p l:Nat→Nat→R) (c:D→R):R:=OP.rec (motive:=fun _=>R) z p l c (vP v)
theorem qft {v:V} {z:R} {p l:Nat→Nat→R} {c:D→R} {x:Ex × St} (h:asP v z p l c=some x):z=some x∨(∃a b,v=.ptr a b∧p a b=some x)∨(∃a b,v=.lp a b∧l a b=some x)∨∃y,v=.cp y∧c y=some x:=by
 unfold asP at h
 cases hv:vP v with
 | no=>rw [hv] at h;exact .inl h
 | p a b=>rw [hv] at h;exact .inr (.inl ⟨a,b,qLk hv,h⟩)
 | l a b=>rw [hv] at h;exact .inr (.inr (.inl ⟨a,b,qMF hv,h⟩))
 | c y=>rw [hv] at h;exact .inr (.inr (.inr ⟨y,qMK hv,h⟩))
noncomputable def qoB (o:Option Obj):Option (List V):=Option.rec (motive:=fun _=>Option (List V)) none (fun ob=>Obj.rec (motive:=fun _=>Option (List V)) (fun cs=>some cs) (fun _=>none) (fun _ _=>none) none (fun _=>none) ob) o
theorem qpo {o:Option Obj} {cs:List V} (h:qoB o=some cs):o=some (.cells cs):=by
 cases o with
 | none=>cases h
 | some ob=>cases ob with
  | cells c=>have h:some c=some cs:=h;cases h;rfl
  | _=>cases h
noncomputable def qxp (o:Option Obj):Option (List V):=Option.rec (motive:=fun _=>Option (List V)) none (fun ob=>Obj.rec (motive:=fun _=>Option (List V)) (fun cs=>some cs) (fun _=>none) (fun _ cs=>some cs) none (fun _=>none) ob) o
theorem qvj {o:Option Obj} {cs:List V} (h:qxp o=some cs):o=some (.cells cs)∨∃l,o=some (.row l cs):=by
 cases o with
 | none=>cases h
 | some ob=>cases ob with
  | cells c=>have h:some c=some cs:=h;cases h;exact .inl rfl
  | row l c=>have h:some c=some cs:=h;cases h;exact .inr ⟨l,rfl⟩
  | _=>cases h
noncomputable def qvB (v:V):Option (List V):=V.rec (motive_1:=fun _=>Option (List V)) (motive_2:=fun _=>Option (List V)) (fun _=>none) (fun _=>none) (fun _=>none) (fun _ _=>none) (fun _ _=>none) (fun cs _=>some cs) (fun _=>none) (fun _ _ _ _=>none) (fun _ _ _=>none) (fun _=>none) (fun _ _ _ _ _=>none) (fun _ _ _=>none) (fun _ _=>none) (fun _ _=>none) none none (fun _ _ _ _=>none) v
theorem qsJ {v:V} {cs:List V} (h:qvB v=some cs):v=.box cs:=by
 cases v with
 | box c=>have h:some c=some cs:=h;cases h;rfl
 | _=>cases h
noncomputable def orN {α:Type} (o:Option α) (κ:α→R):R:=Option.rec (motive:=fun _=>R) none κ o
theorem kL {α:Type} {o:Option α} {κ:α→R} {x:Ex × St} (h:orN o κ=some x):∃a,o=some a∧κ a=some x:=by
 cases o with
 | none=>cases h
 | some a=>exact ⟨a,rfl,h⟩
noncomputable def orZ {α:Type} (o:Option α) (z:R) (κ:α→R):R:=Option.rec (motive:=fun _=>R) z κ o
theorem qnL {α:Type} {o:Option α} {z:R} {κ:α→R} {x:Ex × St} (h:orZ o z κ=some x):z=some x∨∃a,o=some a∧κ a=some x:=by
 cases o with
 | none=>exact .inl h
 | some a=>exact .inr ⟨a,rfl,h⟩
noncomputable def quQ (l:L) (off:Nat) (cs:List V) (κ:V→R):R:=L.rec (motive:=fun _=>R) (fun n agg=>Bool.rec (motive:=fun _=>R) (orN (fnth cs off) fun v=>qFr v κ) (orN (V.part off ⟨n,agg⟩ cs) fun v=>qds v κ) agg) l
theorem qpY {l:L} {off:Nat} {cs:List V} {κ:V→R} {x:Ex × St} (h:quQ l off cs κ=some x):∃v,V.part off l cs=some v∧v.isBox=false∧κ v=some x:=by
 obtain ⟨n,agg⟩:=l
 cases agg with
 | false=>
  obtain ⟨v,h1,h2⟩:=kL (o:=fnth cs off) h
  rw [zH] at h1
  obtain ⟨h3,h4⟩:=qxf h2
  exact ⟨_,by simp [V.part,h1],h3,h4⟩
 | true=>
  obtain ⟨v,h1,h2⟩:=kL (o:=V.part off ⟨n,true⟩ cs) h
  rw [qcl] at h2
  refine ⟨v,h1,?_,h2⟩
  simp only [V.part,if_true] at h1
  split at h1
  ·cases h1;exact qoI _
  ·cases h1
noncomputable def isAgg (x:D):Option (List D):=D.rec (motive_1:=fun _=>Option (List D)) (motive_2:=fun _=>Option (List D)) (fun _=>none) (fun _ _=>none) (fun _=>none) none (fun _ _=>none) (fun cs _=>some cs) none none none none none (fun _ _ _ _=>none) x
noncomputable def qtl (l:L) (x:D) (κ:V→R):R:=L.rec (motive:=fun _=>R) (fun n agg=>Option.rec (motive:=fun _=>R) (Bool.rec (motive:=fun _=>R) (κ (.d x)) none agg) (fun cs=>Bool.rec (motive:=fun _=>R) none (Bool.rec (motive:=fun _=>R) none (κ (.d x)) (qM8 (z5 cs) n)) agg) (isAgg x)) l
theorem qpl {l:L} {x:D} {κ:V→R} {y:Ex × St} {st:St} (h:qtl l x κ=some y):qC l st (.cp x)=some (.d x)∧κ (.d x)=some y:=by
 obtain ⟨n,agg⟩:=l
 cases x with
 | agg cs=>
  cases agg with
  | false=>cases h
  | true=>
   have h:Bool.rec (motive:=fun _=>R) none (κ (.d (.agg cs))) (qM8 (z5 cs) n)=some y:=h
   cases hb:qM8 (z5 cs) n with
   | false=>rw [hb] at h;cases h
   | true=>
    rw [hb] at h
    have:=qM5 hb
    rw [kh] at this
    exact ⟨by simp [qC,this],h⟩
 | _=>
  cases agg with
  | false=>exact ⟨rfl,h⟩
  | true=>cases h
noncomputable def qFE (d:Nat) (sl:Option Nat) (l:L) (a:O) (g k:K):KF:=
 Option.rec (motive:=fun _=>KF)
  (fun call n e H lo=>asP ((kF a).run e) (g.run call n e H lo) (fun id off=>orZ (qxp (fnth H id)) (g.run call n e H lo) fun cs=>quQ l off cs fun v=>k.run call n ((d,v)::e) H lo) (fun _ _=>none) (fun x=>qtl l x fun v=>k.run call n ((d,v)::e) H lo))
  (fun s0 call n e H lo=>asP ((kF a).run e) (g.run call n e H lo) (fun _ _=>none) (fun s off=>Bool.rec (motive:=fun _=>R) none (orN (qvB (fget s e)) fun cs=>quQ l off cs fun v=>k.run call n ((d,v)::e) H lo) (qM8 s0 s)) (fun _=>none)) sl
theorem qw1 {d:Nat} {sl:Option Nat} {l:L} {a:O} {g k:K} (hg:qS g.run (.load false sl l a) (some d) k):qS (qFE d sl l a g k) (.load false sl l a) (some d) k:=by
 intro call n e H lo z h
 cases sl with
 | none=>
  have h:(asP ((kF a).run e) (g.run call n e H lo) (fun id off=>orZ (qxp (fnth H id)) (g.run call n e H lo) fun cs=>quQ l off cs fun v=>k.run call n ((d,v)::e) H lo) (fun _ _=>none) (fun x=>qtl l x fun v=>k.run call n ((d,v)::e) H lo))=some z:=h
  rcases qft h with h|⟨id,off,ha,h⟩|⟨_,_,_,h⟩|⟨y,ha,h⟩
  ·exact hg h
  ·rcases qnL h with h|⟨cs,hc,h⟩
   ·exact hg h
   obtain ⟨v,hv,hb,h⟩:=qpY h
   have ha':rd e a=.ptr id off:=by rw [ki (by rw [ha];trivial),ha]
   have he:qa call (.load false none l a) ⟨e,H,lo⟩=some ⟨false,true,v,⟨e,H,lo⟩⟩:=by
    rcases qvj hc with hc|⟨l',hc⟩<;>
    ·rw [zH] at hc
     simp only [qa,zD,ha',qD,qC,hc,hv,qNd,cond_false,ok]
   rw [he];exact ql hb h
  ·cases h
  ·obtain ⟨h1,h2⟩:=qpl (st:=⟨e,H,lo⟩) h
   have ha':rd e a=.cp y:=by rw [ki (by rw [ha];trivial),ha]
   have he:qa call (.load false none l a) ⟨e,H,lo⟩=some ⟨false,true,.d y,⟨e,H,lo⟩⟩:=by
    simp only [qa,zD,ha',qD,h1,qNd,cond_false,ok]
   rw [he];exact ql rfl h2
 | some s0=>
  have h:(asP ((kF a).run e) (g.run call n e H lo) (fun _ _=>none) (fun s off=>Bool.rec (motive:=fun _=>R) none (orN (qvB (fget s e)) fun cs=>quQ l off cs fun v=>k.run call n ((d,v)::e) H lo) (qM8 s0 s)) (fun _=>none))=some z:=h
  rcases qft h with h|⟨_,_,_,h⟩|⟨s,off,ha,h⟩|⟨_,_,h⟩
  ·exact hg h
  ·cases h
  ·cases hb:qM8 s0 s with
   | false=>rw [hb] at h;cases h
   | true=>
    rw [hb] at h
    obtain ⟨cs,hc,h⟩:=kL (o:=qvB (fget s e)) h
    obtain ⟨v,hv,hbx,h⟩:=qpY h
    have hc:=qsJ hc
    rw [yI] at hc
    have ha':rd e a=.lp s off:=by rw [ki (by rw [ha];trivial),ha]
    have he:qa call (.load false (some s0) l a) ⟨e,H,lo⟩=some ⟨false,true,v,⟨e,H,lo⟩⟩:=by
     simp only [qa,zD,ha',qD,qC,hc,hv,hb,qNd,cond_false,ok]
    rw [he];exact ql hbx h
  ·cases h
noncomputable def qv8 (d:Nat) (l:L) (a:O) (k:K):KF:=fun call n e H lo=>asP ((kF a).run e) none (fun _ _=>none) (fun _ _=>none) (fun x=>qtl l x fun v=>k.run call n ((d,v)::e) H lo)
theorem quw {d:Nat} {l:L} {a:O} {k:K}:qS (qv8 d l a k) (.loadC l a) (some d) k:=by
 intro call n e H lo z h
 unfold qv8 at h
 rcases qft h with h|⟨_,_,_,h⟩|⟨_,_,_,h⟩|⟨y,ha,h⟩
 ·cases h
 ·cases h
 ·cases h
 ·obtain ⟨h1,h2⟩:=qpl (st:=⟨e,H,lo⟩) h
  have ha':rd e a=.cp y:=by rw [ki (by rw [ha];trivial),ha]
  have he:qa call (.loadC l a) ⟨e,H,lo⟩=some ⟨false,true,.d y,⟨e,H,lo⟩⟩:=by
   simp only [qa,qcn,ha',h1,ok]
  rw [he];exact ql rfl h2
noncomputable def qHs (d:Nat) (a:O) (g k:K):KF:=fun call n e H lo=>
 asP ((kF a).run e) (g.run call n e H lo) (fun id off=>k.run call n ((d,.ptr id off)::e) H lo) (fun s off=>k.run call n ((d,.lp s off)::e) H lo) (fun x=>k.run call n ((d,.cp x)::e) H lo)
theorem qzU {d:Nat} {a:O} {g k:K} (hg:qS g.run (.nilCheck a) (some d) k):qS (qHs d a g k) (.nilCheck a) (some d) k:=by
 intro call n e H lo z h
 unfold qHs at h
 rcases qft h with h|⟨id,off,ha,h⟩|⟨s,off,ha,h⟩|⟨y,ha,h⟩
 ·exact hg h
 ·have ha':rd e a=.ptr id off:=(ki (by rw [ha];trivial)).trans ha
  rw [show qa call (.nilCheck a) ⟨e,H,lo⟩=some ⟨false,true,.ptr id off,⟨e,H,lo⟩⟩ by simp only [qa,kP,ha',ok]]
  exact ql rfl h
 ·have ha':rd e a=.lp s off:=(ki (by rw [ha];trivial)).trans ha
  rw [show qa call (.nilCheck a) ⟨e,H,lo⟩=some ⟨false,true,.lp s off,⟨e,H,lo⟩⟩ by simp only [qa,kP,ha',ok]]
  exact ql rfl h
 ·have ha':rd e a=.cp y:=(ki (by rw [ha];trivial)).trans ha
  rw [show qa call (.nilCheck a) ⟨e,H,lo⟩=some ⟨false,true,.cp y,⟨e,H,lo⟩⟩ by simp only [qa,kP,ha',ok]]
  exact ql rfl h
noncomputable def qJ1 (d:Nat) (a:O) (o:Nat) (l:L) (g k:K):KF:=fun call n e H lo=>
 asP ((kF a).run e) (g.run call n e H lo) (fun id off=>qo (Nat.add off o) fun off=>k.run call n ((d,.ptr id off)::e) H lo) (fun s off=>qo (Nat.add off o) fun off=>k.run call n ((d,.lp s off)::e) H lo) (fun _=>g.run call n e H lo)
theorem qin {a:Nat} {κ:Nat→R}:qo a κ=κ a:=kr a κ
theorem qyY {d:Nat} {a:O} {o:Nat} {l:L} {g k:K} (hg:qS g.run (.fieldAddr a o l) (some d) k):qS (qJ1 d a o l g k) (.fieldAddr a o l) (some d) k:=by
 intro call n e H lo z h
 unfold qJ1 at h
 rcases qft h with h|⟨id,off,ha,h⟩|⟨s,off,ha,h⟩|⟨y,ha,h⟩
 ·exact hg h
 ·rw [qin] at h
  have ha':rd e a=.ptr id off:=(ki (by rw [ha];trivial)).trans ha
  have he:qa call (.fieldAddr a o l) ⟨e,H,lo⟩=some ⟨false,true,.ptr id (off+o),⟨e,H,lo⟩⟩:=by
   simp only [qa,qW,ha',ok]
  rw [he];exact ql rfl h
 ·rw [qin] at h
  have ha':rd e a=.lp s off:=(ki (by rw [ha];trivial)).trans ha
  have he:qa call (.fieldAddr a o l) ⟨e,H,lo⟩=some ⟨false,true,.lp s (off+o),⟨e,H,lo⟩⟩:=by
   simp only [qa,qW,ha',ok]
  rw [he];exact ql rfl h
 ·exact hg h
noncomputable def qsq (z:Int) (κ:Nat→R):R:=Int.rec (motive:=fun _=>R) κ (fun _=>none) z
theorem qfT {z:Int} {κ:Nat→R} {x:Ex × St} (h:qsq z κ=some x):∃m:Nat,z=.ofNat m∧κ m=some x:=by
 cases z with
 | ofNat m=>exact ⟨m,rfl,h⟩
 | negSucc m=>cases h
noncomputable def szD (y:D):Nat:=D.rec (motive_1:=fun _=>Nat) (motive_2:=fun _=>Nat) (fun _=>1) (fun _ _=>1) (fun _=>1) 1 (fun _ _=>1) (fun cs _=>z5 cs) 1 1 1 1 1 (fun _ _ _ _=>1) y
theorem qts (y:D):szD y=y.cells.length:=by
 cases y with
 | agg cs=>exact kh cs
 | _=>rfl
noncomputable def asL (v:V) (z nl:R) (κ:List D→R):R:=OL.rec (motive:=fun _=>R) z nl κ (vL v)
theorem qp9 {v:V} {z nl:R} {κ:List D→R} {x:Ex × St} (h:asL v z nl κ=some x):z=some x∨(v=.d .nil∧nl=some x)∨∃xs,v=.d (.sl xs)∧κ xs=some x:=by
 unfold asL at h
 cases hv:vL v with
 | no=>rw [hv] at h;exact .inl h
 | nil=>rw [hv] at h;exact .inr (.inl ⟨qIt hv,h⟩)
 | sl xs=>rw [hv] at h;exact .inr (.inr ⟨xs,qBa hv,h⟩)
noncomputable def asT (v:V) (z:R) (κ:List Nat→R):R:=OT.rec (motive:=fun _=>R) z κ (vT v)
theorem qnq {v:V} {z:R} {κ:List Nat→R} {x:Ex × St} (h:asT v z κ=some x):z=some x∨∃t,v=.d (.s t)∧κ t=some x:=by
 unfold asT at h
 cases hv:vT v with
 | no=>rw [hv] at h;exact .inl h
 | s t=>rw [hv] at h;exact .inr ⟨t,qoK hv,h⟩
noncomputable def qHV (d:Nat) (x i:O) (size:Nat) (g k:K):KF:=fun call n e H lo=>
 asL ((kF x).run e) (g.run call n e H lo) none fun xs=>asN ((kF i).run e) none fun _ z=>qsq z fun m=>orN (fnth xs m) fun y=>Bool.rec (motive:=fun _=>R) none (k.run call n ((d,.cp y)::e) H lo) (qM8 (szD y) size)
theorem qyv {d:Nat} {x i:O} {size:Nat} {g k:K} (hg:qS g.run (.indexAddr x i size none) (some d) k):qS (qHV d x i size g k) (.indexAddr x i size none) (some d) k:=by
 intro call n e H lo z h
 unfold qHV at h
 rcases qp9 h with h|⟨_,h⟩|⟨xs,hx,h⟩
 ·exact hg h
 ·cases h
 rcases qbm h with h|⟨kk,w,hi,h⟩
 ·cases h
 obtain ⟨m,rfl,h⟩:=qfT h
 obtain ⟨y,hy,h⟩:=kL h
 rw [zH] at hy
 rw [qts] at h
 cases hb:qM8 y.cells.length size with
 | false=>rw [hb] at h;cases h
 | true=>
  rw [hb] at h
  have hx':rd e x=.d (.sl xs):=(ki (by rw [hx];trivial)).trans hx
  have hl:leI 0 (Int.ofNat m)=true:=by show Nat.ble 0 m=true;exact Nat.ble_eq_true_of_le (Nat.zero_le m)
  have ht:(Int.ofNat m).toNat=m:=rfl
  have he:qa call (.indexAddr x i size none) ⟨e,H,lo⟩=some ⟨false,true,.cp y,⟨e,H,lo⟩⟩:=by
   simp only [qa,qX,zM,hx',qnI hi,hl,ht,hy,hb,cond_true,ok]
  rw [he];exact ql rfl h
noncomputable def qGZ (d:Nat) (x i:O) (k:K):KF:=fun call n e H lo=>
 asT ((kF x).run e) none fun t=>asN ((kF i).run e) none fun _ z=>qsq z fun m=>orN (fnth t m) fun y=>k.run call n ((d,.d (.i .u8 (.ofNat y)))::e) H lo
theorem qzs {d:Nat} {x i:O} {k:K}:qS (qGZ d x i k) (.index x i) (some d) k:=by
 intro call n e H lo z h
 unfold qGZ at h
 rcases qnq h with h|⟨t,hx,h⟩
 ·cases h
 rcases qbm h with h|⟨kk,w,hi,h⟩
 ·cases h
 obtain ⟨m,rfl,h⟩:=qfT h
 obtain ⟨y,hy,h⟩:=kL h
 rw [zH] at hy
 have hx':rd e x=.d (.s t):=(ki (by rw [hx];trivial)).trans hx
 have hl:leI 0 (Int.ofNat m)=true:=by show Nat.ble 0 m=true;exact Nat.ble_eq_true_of_le (Nat.zero_le m)
 have ht:(Int.ofNat m).toNat=m:=rfl
 have he:qa call (.index x i) ⟨e,H,lo⟩=some ⟨false,true,.d (.i .u8 (.ofNat y)),⟨e,H,lo⟩⟩:=by
  simp only [qa,qfx,hx',qnI hi,hl,ht,hy,cond_true,ok];rfl
 rw [he];exact ql rfl h
noncomputable def asU (v:V) (κ:List V→R):R:=OU.rec (motive:=fun _=>R) none κ (vU v)
theorem qAz {v:V} {κ:List V→R} {x:Ex × St} (h:asU v κ=some x):∃vs,v=.tup vs∧κ vs=some x:=by
 unfold asU at h
 cases hv:vU v with
 | no=>rw [hv] at h;cases h
 | t vs=>rw [hv] at h;exact ⟨vs,qMV hv,h⟩
noncomputable def qJu (d m i:Nat) (k:K):KF:=fun call n e H lo=>
 asU (fget m e) fun vs=>orN (fnth vs i) fun v=>qxC v fun v=>k.run call n ((d,v)::e) H lo
theorem qy0 {d m i:Nat} {k:K}:qS (qJu d m i k) (.extract (.t m) i) (some d) k:=by
 intro call n e H lo z h
 unfold qJu at h
 obtain ⟨vs,hv,h⟩:=qAz h
 obtain ⟨v,hn,h⟩:=kL h
 obtain ⟨hb,h⟩:=qmZ h
 rw [yI] at hv
 rw [zH] at hn
 have he:qa call (.extract (.t m) i) ⟨e,H,lo⟩=some ⟨false,true,copy v,⟨e,H,lo⟩⟩:=by
  simp only [qa,jl,hv,hn,ok]
 rw [he];exact ql hb h
noncomputable def qBg (d:Nat) (x:O) (k:K):KF:=fun call n e H lo=>
 asT ((kF x).run e) none fun t=>qo (z5 t) fun m=>k.run call n ((d,.d (.i .i64 (.ofNat m)))::e) H lo
theorem qwE {d:Nat} {x:O} {k:K}:qS (qBg d x k) (.bi .lenS [x]) (some d) k:=by
 intro call n e H lo z h
 unfold qBg at h
 rcases qnq h with h|⟨t,hx,h⟩
 ·cases h
 rw [qin,kh] at h
 have hx':rd e x=.d (.s t):=(ki (by rw [hx];trivial)).trans hx
 have he:qa call (.bi .lenS [x]) ⟨e,H,lo⟩=some ⟨false,true,.d (.i .i64 (.ofNat t.length)),⟨e,H,lo⟩⟩:=by
  simp only [qa,eBi,qjD,hx',ok];rfl
 rw [he];exact ql rfl h
noncomputable def qAC (d:Nat) (x:O) (g k:K):KF:=fun call n e H lo=>
 asL ((kF x).run e) (g.run call n e H lo) (k.run call n ((d,.d (.i .i64 (.ofNat 0)))::e) H lo) fun xs=>qo (z5 xs) fun m=>k.run call n ((d,.d (.i .i64 (.ofNat m)))::e) H lo
theorem qw9 {d:Nat} {x:O} {g k:K} (hg:qS g.run (.bi .lenL [x]) (some d) k):qS (qAC d x g k) (.bi .lenL [x]) (some d) k:=by
 intro call n e H lo z h
 unfold qAC at h
 rcases qp9 h with h|⟨hx,h⟩|⟨xs,hx,h⟩
 ·exact hg h
 ·have hx':rd e x=.d .nil:=(ki (by rw [hx];trivial)).trans hx
  have he:qa call (.bi .lenL [x]) ⟨e,H,lo⟩=some ⟨false,true,.d (.i .i64 (.ofNat 0)),⟨e,H,lo⟩⟩:=by
   simp only [qa,eBi,qcB,qDN,hx',ok];rfl
  rw [he];exact ql rfl h
 ·rw [qin,kh] at h
  have hx':rd e x=.d (.sl xs):=(ki (by rw [hx];trivial)).trans hx
  have he:qa call (.bi .lenL [x]) ⟨e,H,lo⟩=some ⟨false,true,.d (.i .i64 (.ofNat xs.length)),⟨e,H,lo⟩⟩:=by
   simp only [qa,eBi,qcB,qDN,hx',ok];rfl
  rw [he];exact ql rfl h
noncomputable def asB (v:V) (a b:R):R:=OB.rec (motive:=fun _=>R) none b a (vB v)
theorem qp2 {v:V} {a b:R} {x:Ex × St} (h:asB v a b=some x):(v=.d (.b true)∧a=some x)∨(v=.d (.b false)∧b=some x):=by
 unfold asB at h
 cases hv:vB v with
 | no=>rw [hv] at h;cases h
 | t=>rw [hv] at h;exact .inl ⟨qMm hv,h⟩
 | f=>rw [hv] at h;exact .inr ⟨qMo hv,h⟩
noncomputable def qGx (d:Nat) (x:O) (k:K):KF:=fun call n e H lo=>
 asB ((kF x).run e) (k.run call n ((d,.d (.b false))::e) H lo) (k.run call n ((d,.d (.b true))::e) H lo)
theorem qzJ {d:Nat} {x:O} {k:K}:qS (qGx d x k) (.un .not x) (some d) k:=by
 intro call n e H lo z h
 unfold qGx at h
 rcases qp2 h with ⟨hx,h⟩|⟨hx,h⟩
 ·have hx':rd e x=.d (.b true):=(ki (by rw [hx];trivial)).trans hx
  rw [show qa call (.un .not x) ⟨e,H,lo⟩=some ⟨false,true,.d (.b false),⟨e,H,lo⟩⟩ by simp only [qa,eUn,hx',unD,ok];rfl]
  exact ql rfl h
 ·have hx':rd e x=.d (.b false):=(ki (by rw [hx];trivial)).trans hx
  rw [show qa call (.un .not x) ⟨e,H,lo⟩=some ⟨false,true,.d (.b true),⟨e,H,lo⟩⟩ by simp only [qa,eUn,hx',unD,ok];rfl]
  exact ql rfl h
noncomputable def qww (v:V):Bool:=V.rec (motive_1:=fun _=>Bool) (motive_2:=fun _=>Bool) (fun x=>D.rec (motive_1:=fun _=>Bool) (motive_2:=fun _=>Bool) (fun _=>true) (fun _ _=>true) (fun _=>true) true (fun _ _=>true) (fun _ _=>false) true true true true true (fun _ _ _ _=>true) x) (fun _=>true) (fun _=>true) (fun _ _=>true) (fun _ _=>false) (fun _ _=>false) (fun _=>false) (fun _ _ _ _=>true) (fun _ _ _=>true) (fun _=>true) (fun _ _ _ _ _=>false) (fun _ _ _=>false) (fun _ _=>false) (fun _ _=>false) false false (fun _ _ _ _=>false) v
theorem qx2 {v:V} (h:qww v=true):v.cells=[v]∧V.ones [v]=true:=by
 cases v with
 | d x=>cases x<;>first|exact ⟨rfl,rfl⟩|cases h
 | _=>first|exact ⟨rfl,rfl⟩|cases h
noncomputable def qvv (v:V) (cs:List V):Nat→(List V→R)→R:=
 List.rec (motive:=fun _=>Nat→(List V→R)→R) (fun _ _=>none) (fun c t ih off κ=>Nat.rec (motive:=fun _=>R) (κ (v::t)) (fun m _=>ih m fun t'=>κ (c::t')) off) cs
theorem qlJ {v:V}:∀{cs:List V} {off:Nat} {κ:List V→R} {x:Ex × St},qvv v cs off κ=some x→∃cs',kD cs off [v]=some cs'∧κ cs'=some x
 | [],off,κ,x,h=>by cases h
 | c::t,0,κ,x,h=>⟨v::t,by simp [kD],h⟩
 | c::t,m+1,κ,x,h=>by
  have h:qvv v t m (fun t'=>κ (c::t'))=some x:=h
  obtain ⟨cs',h1,h2⟩:=qlJ h
  refine ⟨c::cs',?_,h2⟩
  simp only [kD,List.length_cons,List.length_nil] at h1 ⊢
  split at h1
  ·rename_i hl
   cases h1
   rw [if_pos (by omega)]
   simp [Nat.add_right_comm]
  ·cases h1
noncomputable def qme (o:Obj) (H:List Obj):Nat→(List Obj→R)→R:=
 List.rec (motive:=fun _=>Nat→(List Obj→R)→R) (fun _ _=>none) (fun c t ih off κ=>Nat.rec (motive:=fun _=>R) (κ (o::t)) (fun m _=>ih m fun t'=>κ (c::t')) off) H
theorem qcc {o:Obj}:∀{H:List Obj} {id:Nat} {κ:List Obj→R} {x:Ex × St},qme o H id κ=some x→κ (qN H id o)=some x
 | [],off,κ,x,h=>by cases h
 | c::t,0,κ,x,h=>h
 | c::t,m+1,κ,x,h=>by
  have h:qme o t m (fun t'=>κ (c::t'))=some x:=h
  exact qcc (H:=t) (id:=m) (κ:=fun t'=>κ (c::t')) h
noncomputable def qlS (a b:Nat) (κ:Nat→R):R:=Bool.rec (motive:=fun _=>R) (κ b) (κ a) (Nat.ble a b)
theorem qhf (a b:Nat) (κ:Nat→R):qlS a b κ=κ (min a b):=by
 unfold qlS
 cases h:Nat.ble a b with
 | true=>rw [Nat.min_eq_left (Nat.le_of_ble_eq_true h)]
 | false=>
  have:¬a≤b:=fun hc=>by rw [Nat.ble_eq_true_of_le hc] at h;cases h
  rw [Nat.min_eq_right (by omega)]
noncomputable def qCa (g k:K) (v:V) (id off:Nat) (call:Call) (n:Nat) (e:Env) (H:List Obj) (lo:Nat) (e':Env):R:=
 match fnth H id with
 | some (.row l cs)=>Bool.rec (motive:=fun _=>R) (g.run call n e H lo) (qvv v cs off fun cs=>qme (.row l cs) H id fun H=>qlS lo id fun lo=>k.run call n e' H lo) v.ok
 | _=>g.run call n e H lo
noncomputable def qL7 (sl:Option Nat) (a x:O) (g k:K):KF:=
 Option.rec (motive:=fun _=>KF)
  (fun call n e H lo=>asP ((kF a).run e) (g.run call n e H lo) (fun id off=>(rdC x).run e fun v=>Bool.rec (motive:=fun _=>R) (g.run call n e H lo) (orZ (qoB (fnth H id)) (qCa g k v id off call n e H lo ((spO x).run e)) fun cs=>qvv v cs off fun cs=>qme (.cells cs) H id fun H=>qlS lo id fun lo=>k.run call n ((spO x).run e) H lo) (qww v)) (fun _ _=>none) (fun _=>none))
  (fun s0 call n e H lo=>asP ((kF a).run e) (g.run call n e H lo) (fun _ _=>none) (fun s off=>(rdC x).run e fun v=>Bool.rec (motive:=fun _=>R) (g.run call n e H lo) (Bool.rec (motive:=fun _=>R) none (orN (qvB (fget s ((spO x).run e))) fun cs=>qvv v cs off fun cs=>k.run call n ((s,.box cs)::(spO x).run e) H lo) (qM8 s0 s)) (qww v)) (fun _=>none)) sl
theorem qyl {sl:Option Nat} {a x:O} {g k:K} (hg:qS g.run (.store sl ⟨1,false⟩ a x) none k):qS (qL7 sl a x g k) (.store sl ⟨1,false⟩ a x) none k:=by
 intro call n e H lo z h
 cases sl with
 | none=>
  have h:(asP ((kF a).run e) (g.run call n e H lo) (fun id off=>(rdC x).run e fun v=>Bool.rec (motive:=fun _=>R) (g.run call n e H lo) (orZ (qoB (fnth H id)) (qCa g k v id off call n e H lo ((spO x).run e)) fun cs=>qvv v cs off fun cs=>qme (.cells cs) H id fun H=>qlS lo id fun lo=>k.run call n ((spO x).run e) H lo) (qww v)) (fun _ _=>none) (fun _=>none))=some z:=h
  rcases qft h with h|⟨id,off,ha,h⟩|⟨_,_,_,h⟩|⟨y,ha,h⟩
  ·exact hg h
  ·rw [qht] at h
   cases ho:qww (rd e x) with
   | false=>rw [ho] at h;exact hg h
   | true=>
    rw [ho] at h
    obtain ⟨h1,h2⟩:=qx2 ho
    rcases qnL (o:=qoB (fnth H id)) h with h|⟨cs,hc,h⟩
    ·unfold qCa at h
     rw [zH] at h
     split at h
     ·rename_i l' cs hob
      cases hok:(rd e x).ok with
      | false=>rw [hok] at h;exact hg h
      | true=>
       rw [hok] at h
       obtain ⟨cs',hs,h⟩:=qlJ h
       have h:=qcc h
       rw [qhf,qmQ] at h
       have ha':rd e a=.ptr id off:=(ki (by rw [ha];trivial)).trans ha
       have he:qa call (.store none ⟨1,false⟩ a x) ⟨e,H,lo⟩=some ⟨false,false,.undef,⟨spent x e,qN H id (.row l' cs'),min lo id⟩⟩:=by
        simp only [qa,yU,ha',qD,yH,hob,h1,h2,hs,hok,V.ok.oks,qNd,cond_false,okH,List.length_cons,List.length_nil,qNe,decide_true,qNf,if_true]
       rw [he]
       exact ⟨_,rfl,.inl ⟨rfl,_,rfl,h⟩⟩
     ·exact hg h
    obtain ⟨cs',hs,h⟩:=qlJ h
    have h:=qcc h
    rw [qhf,qmQ] at h
    have hc:=qpo hc
    rw [zH] at hc
    have ha':rd e a=.ptr id off:=(ki (by rw [ha];trivial)).trans ha
    have he:qa call (.store none ⟨1,false⟩ a x) ⟨e,H,lo⟩=some ⟨false,false,.undef,⟨spent x e,qN H id (.cells cs'),min lo id⟩⟩:=by
     simp only [qa,yU,ha',qD,yH,hc,h1,h2,hs,qNd,cond_false,okH,List.length_cons,List.length_nil,qNe,decide_true,qNf,if_true]
    rw [he]
    exact ⟨_,rfl,.inl ⟨rfl,_,rfl,h⟩⟩
  ·cases h
  ·cases h
 | some s0=>
  have h:(asP ((kF a).run e) (g.run call n e H lo) (fun _ _=>none) (fun s off=>(rdC x).run e fun v=>Bool.rec (motive:=fun _=>R) (g.run call n e H lo) (Bool.rec (motive:=fun _=>R) none (orN (qvB (fget s ((spO x).run e))) fun cs=>qvv v cs off fun cs=>k.run call n ((s,.box cs)::(spO x).run e) H lo) (qM8 s0 s)) (qww v)) (fun _=>none))=some z:=h
  rcases qft h with h|⟨_,_,_,h⟩|⟨s,off,ha,h⟩|⟨_,_,h⟩
  ·exact hg h
  ·cases h
  ·rw [qht] at h
   cases ho:qww (rd e x) with
   | false=>rw [ho] at h;exact hg h
   | true=>
    rw [ho] at h
    obtain ⟨h1,h2⟩:=qx2 ho
    have h:Bool.rec (motive:=fun _=>R) none (orN (qvB (fget s ((spO x).run e))) fun cs=>qvv (rd e x) cs off fun cs=>k.run call n ((s,.box cs)::(spO x).run e) H lo) (qM8 s0 s)=some z:=h
    cases hb:qM8 s0 s with
    | false=>rw [hb] at h;cases h
    | true=>
     rw [hb] at h
     obtain ⟨cs,hc,h⟩:=kL (o:=qvB (fget s ((spO x).run e))) h
     obtain ⟨cs',hs,h⟩:=qlJ h
     have hc:=qsJ hc
     rw [yI,qmQ] at hc
     rw [qmQ] at h
     have ha':rd e a=.lp s off:=(ki (by rw [ha];trivial)).trans ha
     have he:qa call (.store (some s0) ⟨1,false⟩ a x) ⟨e,H,lo⟩=some ⟨false,true,.undef,⟨(s,.box cs')::spent x e,H,lo⟩⟩:=by
      simp only [qa,yU,ha',qD,yH,hb,hc,h1,h2,hs,qNd,cond_false,ok,List.length_cons,List.length_nil,qNe,decide_true,qNf,if_true]
     rw [he]
     exact ⟨_,rfl,.inl ⟨rfl,_,rfl,h⟩⟩
  ·cases h
noncomputable def qBx {α:Type} (o:α) (l:List α):(List α→R)→R:=List.rec (motive:=fun _=>(List α→R)→R) (fun κ=>κ [o]) (fun x _ ih κ=>ih fun r=>κ (x::r)) l
theorem quy {α:Type} (o:α) (l:List α) (κ:List α→R):qBx o l κ=κ (l++[o]):=by
 induction l generalizing κ with
 | nil=>rfl
 | cons x l ih=>exact ih _
noncomputable def qJj (d:Nat) (zero:List D) (k:K):KF:=fun call n e H lo=>
 zU (fun v κ=>κ v) (zero.map V.d) fun cs=>qo (z5 H) fun m=>qBx (.cells cs) H fun H=>k.run call n ((d,.ptr m 0)::e) H lo
theorem qzP {d:Nat} {zero:List D} {k:K}:qS (qJj d zero k) (.alloc false zero) (some d) k:=by
 intro call n e H lo z h
 unfold qJj at h
 rw [kp (fun v κ=>rfl),qin,kh,quy] at h
 exact ql (same:=false) rfl h
noncomputable def qHb (d:Nat) (k:K):KF:=fun call n e H lo=>qo (z5 H) fun m=>qBx (.map []) H fun H=>k.run call n ((d,.map m)::e) H lo
theorem qyt {d:Nat} {k:K}:qS (qHb d k) .mkMap (some d) k:=by
 intro call n e H lo z h
 unfold qHb at h
 rw [qin,kh,quy] at h
 exact ql (same:=false) rfl h
noncomputable def qo1 (a:List Nat):List Nat→Bool:=List.rec (motive:=fun _=>List Nat→Bool) (fun b=>List.rec (motive:=fun _=>Bool) true (fun _ _ _=>false) b) (fun x _ ih b=>List.rec (motive:=fun _=>Bool) false (fun y t _=>Bool.rec (motive:=fun _=>Bool) false (ih t) (qM8 x y)) b) a
theorem qpT:∀a b:List Nat,qo1 a b=eqT a b
 | [],[]=>rfl
 | [],_::_=>rfl
 | _::_,[]=>rfl
 | x::a,y::b=>by
  show Bool.rec (motive:=fun _=>Bool) false (qo1 a b) (qM8 x y)=(qM8 x y && eqT a b)
  rw [qpT a b]
  cases qM8 x y<;>rfl
noncomputable def quB (x w:D):Option Bool:=D.rec (motive_1:=fun _=>Option Bool) (motive_2:=fun _=>Option Bool) (fun y=>D.same (.b y) w) (fun k n=>D.same (.i k n) w) (fun t=>OT.rec (motive:=fun _=>Option Bool) (D.same (.s t) w) (fun u=>some (qo1 t u)) (vT (.d w))) none (fun _ _=>none) (fun _ _=>none) none none none none none (fun _ _ _ _=>none) x
theorem qu2 (x w:D):quB x w=D.same x w:=by
 cases x with
 | s t=>
  show OT.rec (motive:=fun _=>Option Bool) (D.same (.s t) w) (fun u=>some (qo1 t u)) (vT (.d w))=_
  cases h:vT (.d w) with
  | no=>rfl
  | s u=>
   have:=qoK h
   cases this
   show some (qo1 t u)=some (eqT t u)
   rw [qpT]
 | b z=>rfl
 | i k n=>rfl
 | _=>cases w<;>rfl
noncomputable def qBH (k:D) (es:List (D × V)):Option (Option V):=List.rec (motive:=fun _=>Option (Option V)) (some none) (fun p _ ih=>Option.rec (motive:=fun _=>Option (Option V)) none (fun b=>Bool.rec (motive:=fun _=>Option (Option V)) ih (some (some p.2)) b) (quB k p.1)) es
theorem qCq (k:D) (es:List (D × V)):qBH k es=qcx k es:=by
 induction es with
 | nil=>rfl
 | cons p es ih=>
  obtain ⟨k',v⟩:=p
  show Option.rec (motive:=fun _=>Option (Option V)) none (fun b=>Bool.rec (motive:=fun _=>Option (Option V)) (qBH k es) (some (some v)) b) (quB k k')=qcx k ((k',v)::es)
  rw [qu2,ih]
  simp only [qcx]
  cases D.same k k' with
  | none=>rfl
  | some b=>cases b<;>rfl
noncomputable def qAO (k:D) (v:V) (es:List (D × V)):(List (D × V)→R)→R:=List.rec (motive:=fun _=>(List (D × V)→R)→R) (fun κ=>κ [(k,v)]) (fun p t ih κ=>Option.rec (motive:=fun _=>R) none (fun b=>Bool.rec (motive:=fun _=>R) (ih fun r=>κ (p::r)) (κ ((p.1,v)::t)) b) (quB k p.1)) es
theorem qqZ {k:D} {v:V}:∀{es:List (D × V)} {κ:List (D × V)→R} {x:Ex × St},qAO k v es κ=some x→∃es',qlC k v es=some es'∧κ es'=some x
 | [],κ,x,h=>⟨_,rfl,h⟩
 | (k',w)::es,κ,x,h=>by
  have h:Option.rec (motive:=fun _=>R) none (fun b=>Bool.rec (motive:=fun _=>R) (qAO k v es fun r=>κ ((k',w)::r)) (κ ((k',v)::es)) b) (quB k k')=some x:=h
  rw [qu2] at h
  cases hs:D.same k k' with
  | none=>rw [hs] at h;cases h
  | some b=>
   rw [hs] at h
   cases b with
   | true=>exact ⟨_,by simp only [qlC,hs],h⟩
   | false=>
    obtain ⟨es',h1,h2⟩:=qqZ (es:=es) h
    exact ⟨_,by simp only [qlC,hs,h1],h2⟩
noncomputable def vD (v:V):Option D:=V.rec (motive_1:=fun _=>Option D) (motive_2:=fun _=>Option D) (fun x=>some x) (fun _=>none) (fun _=>none) (fun _ _=>none) (fun _ _=>none) (fun _ _=>none) (fun _=>none) (fun _ _ _ _=>none) (fun _ _ _=>none) (fun _=>none) (fun _ _ _ _ _=>none) (fun _ _ _=>none) (fun _ _=>none) (fun _ _=>none) none none (fun _ _ _ _=>none) v
theorem qs2 {v:V} {x:D} (h:vD v=some x):v=.d x:=by
 cases v with
 | d y=>have h:some y=some x:=h;cases h;rfl
 | _=>cases h
noncomputable def qFL (v:V):Option Nat:=V.rec (motive_1:=fun _=>Option Nat) (motive_2:=fun _=>Option Nat) (fun _=>none) (fun _=>none) (fun _=>none) (fun _ _=>none) (fun _ _=>none) (fun _ _=>none) (fun _=>none) (fun _ _ _ _=>none) (fun _ _ _=>none) (fun a=>some a) (fun _ _ _ _ _=>none) (fun _ _ _=>none) (fun _ _=>none) (fun _ _=>none) none none (fun _ _ _ _=>none) v
theorem qsr {v:V} {m:Nat} (h:qFL v=some m):v=.map m:=by
 cases v with
 | map y=>have h:some y=some m:=h;cases h;rfl
 | _=>cases h
noncomputable def qJk (o:Option Obj):Option (List (D × V)):=Option.rec (motive:=fun _=>Option (List (D × V))) none (fun ob=>Obj.rec (motive:=fun _=>Option (List (D × V))) (fun _=>none) (fun es=>some es) (fun _ _=>none) none (fun _=>none) ob) o
theorem qsv {o:Option Obj} {es:List (D × V)} (h:qJk o=some es):o=some (.map es):=by
 cases o with
 | none=>cases h
 | some ob=>cases ob with
  | map c=>have h:some c=some es:=h;cases h;rfl
  | _=>cases h
noncomputable def yQ (b:Bool) (κ:R):R:=Bool.rec (motive:=fun _=>R) none κ b
theorem qY {b:Bool} {κ:R} {x:Ex × St} (h:yQ b κ=some x):b=true∧κ=some x:=by
 cases b with
 | false=>cases h
 | true=>exact ⟨rfl,h⟩
noncomputable def qAa (d:Nat) (kk:Nat) (zero:D) (m q:O) (c:Bool) (g k:K):KF:=fun call n e H lo=>
 orZ (qFL ((kF m).run e)) (g.run call n e H lo) fun id=>orN (vD ((kF q).run e)) fun key=>orN (qJk (fnth H id)) fun es=>yQ (zr kk key) (orN (qBH key es) fun r=>
  Option.rec (motive:=fun _=>R) (Bool.rec (motive:=fun _=>R) (k.run call n ((d,.d zero)::e) H lo) (k.run call n ((d,.tup [.d zero,.d (.b false)])::e) H lo) c) (fun v=>Bool.rec (motive:=fun _=>R) (qxC v fun v=>k.run call n ((d,v)::e) H lo) (qxC v fun v=>k.run call n ((d,.tup [v,.d (.b true)])::e) H lo) c) r)
theorem qwn {d kk:Nat} {zero:D} {m q:O} {c:Bool} {g k:K} (hg:qS g.run (.lookup kk zero m q c) (some d) k):qS (qAa d kk zero m q c g k) (.lookup kk zero m q c) (some d) k:=by
 intro call n e H lo z h
 unfold qAa at h
 rcases qnL h with h|⟨id,hm,h⟩
 ·exact hg h
 obtain ⟨key,hq,h⟩:=kL h
 obtain ⟨es,hs,h⟩:=kL h
 obtain ⟨hgk,h⟩:=qY h
 obtain ⟨r,hf,h⟩:=kL h
 have hm:=qsr hm
 have hq:=qs2 hq
 have hs:=qsv hs
 rw [zH] at hs
 rw [qCq] at hf
 have hm':rd e m=.map id:=(ki (by rw [hm];trivial)).trans hm
 have hq':rd e q=.d key:=(ki (by rw [hq];trivial)).trans hq
 cases r with
 | none=>
  have he:qa call (.lookup kk zero m q c) ⟨e,H,lo⟩=some ⟨false,true,bif c then .tup [.d zero,.d (.b false)] else .d zero,⟨e,H,lo⟩⟩:=by
   simp only [qa,zG,hm',hq',hs,hgk,hf,ok,if_true]
  rw [he]
  cases c<;>exact ql rfl h
 | some v=>
  have he:qa call (.lookup kk zero m q c) ⟨e,H,lo⟩=some ⟨false,true,bif c then .tup [copy v,.d (.b true)] else copy v,⟨e,H,lo⟩⟩:=by
   simp only [qa,zG,hm',hq',hs,hgk,hf,ok,if_true]
  rw [he]
  cases c with
  | false=>
   obtain ⟨hb,h⟩:=qmZ (v:=v) h
   exact ql hb h
  | true=>
   obtain ⟨hb,h⟩:=qmZ (v:=v) h
   exact ql rfl h
noncomputable def okF (v:V):Bool:=V.rec (motive_1:=fun _=>Bool) (motive_2:=fun _=>Bool) (fun _=>true) (fun _=>false) (fun _=>true) (fun _ _=>true) (fun _ _=>false) (fun _ _=>false) (fun _=>false) (fun _ _ _ _=>true) (fun _ _ _=>true) (fun _=>true) (fun f a b _ _=>V.ok (.fn f a b)) (fun t x _=>V.ok (.ifc t x)) (fun cs _=>V.ok (.agg cs)) (fun vs _=>V.ok (.tup vs)) true false (fun _ _ _ _=>false) v
theorem qHI (v:V):okF v=v.ok:=by cases v<;>rfl
noncomputable def qI9 (kk:Nat) (m q x:O) (k:K):KF:=fun call n e H lo=>
 orN (qFL ((kF m).run e)) fun id=>orN (vD ((kF q).run e)) fun key=>orN (qJk (fnth H id)) fun es=>(rdC x).run e fun v=>yQ (zr kk key) (yQ (okF v) (qAO key v es fun es=>qme (.map es) H id fun H=>qlS lo id fun lo=>k.run call n ((spO x).run e) H lo))
theorem qzx {kk:Nat} {m q x:O} {k:K}:qS (qI9 kk m q x k) (.mapUpdate kk m q x) none k:=by
 intro call n e H lo z h
 unfold qI9 at h
 obtain ⟨id,hm,h⟩:=kL h
 obtain ⟨key,hq,h⟩:=kL h
 obtain ⟨es,hs,h⟩:=kL h
 rw [qht] at h
 obtain ⟨hgk,h⟩:=qY h
 obtain ⟨hok,h⟩:=qY h
 obtain ⟨es',hp,h⟩:=qqZ h
 have h:=qcc h
 rw [qhf,qmQ] at h
 have hm:=qsr hm
 have hq:=qs2 hq
 have hs:=qsv hs
 rw [zH] at hs
 rw [qHI] at hok
 have hm':rd e m=.map id:=(ki (by rw [hm];trivial)).trans hm
 have hq':rd e q=.d key:=(ki (by rw [hq];trivial)).trans hq
 have he:qa call (.mapUpdate kk m q x) ⟨e,H,lo⟩=some ⟨false,false,.undef,⟨spent x e,qN H id (.map es'),min lo id⟩⟩:=by
  simp only [qa,zx,hm',hq',hs,hgk,hok,hp,okH,if_true,qNf]
 rw [he]
 exact ⟨_,rfl,.inl ⟨rfl,_,rfl,h⟩⟩
noncomputable def hdF (size:Nat) (l:List D):Bool:=List.rec (motive:=fun _=>Bool) true (fun x _ _=>qM8 (szD x) size) l
theorem qv2 (size:Nat) (l:List D):hdF size l=kI size l:=by
 cases l with
 | nil=>rfl
 | cons x l=>show qM8 (szD x) size=qM8 x.cells.length size;rw [qts]
noncomputable def qqJ (bytes n:Nat):Bool:=Bool.rec (motive:=fun _=>Bool) false (Nat.ble n 140737488355328) (Nat.ble (Nat.mul n bytes) 140737488355328)
theorem qqi (bytes n:Nat):qqJ bytes n=roomy bytes n:=by
 show Bool.rec (motive:=fun _=>Bool) false (Nat.ble n 140737488355328) (Nat.ble (n * bytes) 140737488355328)=(Nat.ble (n * bytes) 140737488355328 && Nat.ble n 140737488355328)
 cases Nat.ble (n * bytes) 140737488355328<;>rfl
noncomputable def qA7 {α:Type} (ys:List α) (l:List α):(List α→R)→R:=List.rec (motive:=fun _=>(List α→R)→R) (fun κ=>κ ys) (fun x _ ih κ=>ih fun r=>κ (x::r)) l
theorem qxD {α:Type} (ys l:List α) (κ:List α→R):qA7 ys l κ=κ (l++ys):=by
 induction l generalizing κ with
 | nil=>rfl
 | cons x l ih=>exact ih _
inductive OA where
 | no|nil
 | osl (xs:List D)
 | fsl (xs:List D)
noncomputable def vA (v:V):OA:=V.rec (motive_1:=fun _=>OA) (motive_2:=fun _=>OA) (fun x=>D.rec (motive_1:=fun _=>OA) (motive_2:=fun _=>OA) (fun _=>.no) (fun _ _=>.no) (fun _=>.no) .nil (fun _ _=>.no) (fun _ _=>.no) .no .no .no .no .no (fun _ _ _ _=>.no) x) (fun xs=>.osl xs) (fun xs=>.fsl xs) (fun _ _=>.no) (fun _ _=>.no) (fun _ _=>.no) (fun _=>.no) (fun _ _ _ _=>.no) (fun _ _ _=>.no) (fun _=>.no) (fun _ _ _ _ _=>.no) (fun _ _ _=>.no) (fun _ _=>.no) (fun _ _=>.no) .no .no (fun _ _ _ _=>.no) v
theorem qGL {v:V} (h:vA v=.nil):v=.d .nil:=by
 cases v with
 | d x=>cases x with
  | nil=>rfl
  | _=>cases h
 | _=>cases h
theorem qIw {v:V} {xs:List D} (h:vA v=.osl xs):v=.osl xs:=by
 cases v with
 | osl ys=>have h:OA.osl ys=.osl xs:=h;cases h;rfl
 | d x=>cases x<;>cases h
 | _=>cases h
theorem qIW {v:V} {xs:List D} (h:vA v=.fsl xs):v=.fsl xs:=by
 cases v with
 | fsl ys=>have h:OA.fsl ys=.fsl xs:=h;cases h;rfl
 | d x=>cases x<;>cases h
 | _=>cases h
noncomputable def qLX {α:Type} (l:List α):Bool:=List.rec (motive:=fun _=>Bool) false (fun _ _ _=>true) l
noncomputable def qJR (d size bytes:Nat) (x y:O) (g k:K):KF:=fun call n e H lo=>
 (rdC x).run e fun a=>(rdC y).run e fun b=>asL b (g.run call n e H lo) (g.run call n e H lo) fun ys=>
  OA.rec (motive:=fun _=>R) (g.run call n e H lo)
   (Bool.rec (motive:=fun _=>R) (g.run call n e H lo) (yQ (hdF size ys) (yQ (qqJ bytes (z5 ys)) (k.run call n ((d,.osl ys)::(spO x).run e) H lo))) (qLX ys))
   (fun xs=>yQ (hdF size xs) (yQ (hdF size ys) (yQ (qqJ bytes (Nat.add (z5 xs) (z5 ys))) (qA7 ys xs fun zs=>k.run call n ((d,.osl zs)::(spO x).run e) H lo))))
   (fun xs=>yQ (hdF size xs) (yQ (hdF size ys) (yQ (qqJ bytes (Nat.add (z5 xs) (z5 ys))) (qA7 ys xs fun zs=>k.run call n ((d,.osl zs)::(spO x).run e) H lo)))) (vA a)
theorem qyF {d size bytes:Nat} {x y:O} {g k:K} (hg:qS g.run (.bi (.append size bytes) [x,y]) (some d) k):qS (qJR d size bytes x y g k) (.bi (.append size bytes) [x,y]) (some d) k:=by
 intro call n e H lo z h
 unfold qJR at h
 rw [qht,qht] at h
 rcases qp9 h with h|⟨_,h⟩|⟨ys,hy,h⟩
 ·exact hg h
 ·exact hg h
 have done:∀{v:V},v.isBox=false→qlH size bytes (rd e x) (rd e y)=some v→k.run call n ((d,v)::(spO x).run e) H lo=some z→qse (qa call (.bi (.append size bytes) [x,y]) ⟨e,H,lo⟩) (some d) k call n z:=by
  intro v hb hv hk
  have he:qa call (.bi (.append size bytes) [x,y]) ⟨e,H,lo⟩=some ⟨false,true,v,⟨spent x e,H,lo⟩⟩:=by
   simp only [qa,eBi,yE,hv,ok]
  rw [he]
  rw [qmQ] at hk
  exact ql hb hk
 cases ha:vA (rd e x) with
 | no=>rw [ha] at h;exact hg h
 | nil=>
  rw [ha] at h
  cases ys with
  | nil=>exact hg h
  | cons y0 ys=>
   obtain ⟨h1,h⟩:=qY (κ:=yQ (qqJ bytes (z5 (y0::ys))) (k.run call n ((d,.osl (y0::ys))::(spO x).run e) H lo)) h
   obtain ⟨h2,h⟩:=qY h
   rw [qv2] at h1
   rw [qqi,kh] at h2
   exact done rfl (by rw [qGL ha,hy];simp only [qlH,h1,h2,qNf,cond_true]) h
 | osl xs=>
  rw [ha] at h
  obtain ⟨h1,h⟩:=qY (b:=hdF size xs) (κ:=yQ (hdF size ys) (yQ (qqJ bytes (Nat.add (z5 xs) (z5 ys))) (qA7 ys xs fun zs=>k.run call n ((d,.osl zs)::(spO x).run e) H lo))) h
  obtain ⟨h2,h⟩:=qY h
  obtain ⟨h3,h⟩:=qY h
  rw [qv2] at h1 h2
  rw [qqi,kh,kh] at h3
  have h3:roomy bytes (xs.length+ys.length)=true:=h3
  rw [qxD] at h
  exact done rfl (by rw [qIw ha,hy];simp only [qlH,h1,h2,h3,qNf,cond_true]) h
 | fsl xs=>
  rw [ha] at h
  obtain ⟨h1,h⟩:=qY (b:=hdF size xs) (κ:=yQ (hdF size ys) (yQ (qqJ bytes (Nat.add (z5 xs) (z5 ys))) (qA7 ys xs fun zs=>k.run call n ((d,.osl zs)::(spO x).run e) H lo))) h
  obtain ⟨h2,h⟩:=qY h
  obtain ⟨h3,h⟩:=qY h
  rw [qv2] at h1 h2
  rw [qqi,kh,kh] at h3
  have h3:roomy bytes (xs.length+ys.length)=true:=h3
  rw [qxD] at h
  exact done rfl (by rw [qIW ha,hy];simp only [qlH,h1,h2,h3,qNf,cond_true]) h
noncomputable def qh7 (l:List D):Bool:=List.rec (motive:=fun _=>Bool) true (fun x _ ih=>D.rec (motive_1:=fun _=>Bool) (motive_2:=fun _=>Bool) (fun _=>ih) (fun _ _=>ih) (fun _=>ih) ih (fun _ _=>ih) (fun _ _=>false) ih ih ih ih ih (fun _ _ _ _=>ih) x) l
theorem qBE (l:List D):qh7 l=D.ones l:=by
 induction l with
 | nil=>rfl
 | cons x l ih=>
  show (D.rec (motive_1:=fun _=>Bool) (motive_2:=fun _=>Bool) (fun _=>qh7 l) (fun _ _=>qh7 l) (fun _=>qh7 l) (qh7 l) (fun _ _=>qh7 l) (fun _ _=>false) (qh7 l) (qh7 l) (qh7 l) (qh7 l) (qh7 l) (fun _ _ _ _=>qh7 l) x)=(x.one && D.ones l)
  rw [ih]
  cases x<;>rfl
noncomputable def wfF (x:D):Bool:=D.rec (motive_1:=fun _=>Bool) (motive_2:=fun _=>Bool) (fun _=>true) (fun _ _=>true) (fun _=>true) true (fun _ _=>true) (fun cs _=>qh7 cs) true true true true true (fun _ _ _ _=>true) x
theorem qHP (x:D):wfF x=x.wf:=by
 cases x with
 | agg cs=>exact qBE cs
 | _=>rfl
noncomputable def qGX (d:Nat) (zero:D) (x:O) (g k:K):KF:=fun call n e H lo=>
 (rdC x).run e fun v=>orZ (vD v) (g.run call n e H lo) fun y=>yQ (qM8 (szD y) (szD zero)) (yQ (wfF y) (k.run call n ((d,.osl [y])::e) H lo))
theorem qzq {d:Nat} {zero:D} {x:O} {g k:K} (hg:qS g.run (.buildSlice zero 1 [(0,x)]) (some d) k):qS (qGX d zero x g k) (.buildSlice zero 1 [(0,x)]) (some d) k:=by
 intro call n e H lo z h
 unfold qGX at h
 rw [qht] at h
 rcases qnL h with h|⟨y,hv,h⟩
 ·exact hg h
 obtain ⟨h1,h⟩:=qY h
 obtain ⟨h2,h⟩:=qY h
 have hv:=qs2 hv
 rw [qts,qts] at h1
 have h1:=qM5 h1
 rw [qHP] at h2
 have he:qa call (.buildSlice zero 1 [(0,x)]) ⟨e,H,lo⟩=some ⟨false,true,.osl [y],⟨e,H,lo⟩⟩:=by
  simp [qa,kc,hv,qdW,h1,D.wfs,h2,ok,List.replicate]
 rw [he];exact ql rfl h
noncomputable def lvF (v:V):Bool:=V.rec (motive_1:=fun _=>Bool) (motive_2:=fun _=>Bool) (fun _=>true) (fun _=>true) (fun _=>true) (fun _ _=>true) (fun _ _=>false) (fun _ _=>false) (fun _=>false) (fun _ _ _ _=>true) (fun _ _ _=>true) (fun _=>true) (fun f a b _ _=>V.ok (.fn f a b)) (fun t x _=>V.ok (.ifc t x)) (fun cs _=>V.ok (.agg cs)) (fun vs _=>V.ok (.tup vs)) true false (fun _ _ _ _=>false) v
theorem qAR (v:V):lvF v=v.leaves:=by cases v<;>rfl
noncomputable def lvs (l:List V):Bool:=List.rec (motive:=fun _=>Bool) true (fun v _ ih=>Bool.rec (motive:=fun _=>Bool) false ih (lvF v)) l
theorem qwV (l:List V):lvs l=V.allLeave l:=by
 induction l with
 | nil=>rfl
 | cons v l ih=>
  show Bool.rec (motive:=fun _=>Bool) false (lvs l) (lvF v)=(v.leaves && V.allLeave l)
  rw [ih,qAR]
  cases v.leaves<;>rfl
noncomputable def qHo (dst:Option Nat) (v:V) (k:K):KF:=fun call n e H lo=>
 Option.rec (motive:=fun _=>R) (k.run call n e H lo) (fun d=>qkT v (qhZ (some d) v k call n e H lo) fun v=>k.run call n ((d,v)::e) H lo) dst
theorem qxa {dst:Option Nat} {v:V} {same:Bool} {k:K} {call:Call} {n:Nat} {e:Env} {H:List Obj} {lo:Nat} {x:Ex × St} (h:qHo dst v k call n e H lo=some x):qse (some ⟨false,same,v,⟨e,H,lo⟩⟩) dst k call n x:=by
 cases dst with
 | none=>exact ⟨_,rfl,.inl ⟨rfl,_,rfl,h⟩⟩
 | some d=>
  have h:qkT v (qhZ (some d) v k call n e H lo) (fun v=>k.run call n ((d,v)::e) H lo)=some x:=h
  rcases qkU h with h|⟨hb,h⟩
  ·exact qjk h
  ·exact ql hb h
noncomputable def qBw (dst:Option Nat) (i:Nat) (args:List O) (k:K):KF:=fun call n e H lo=>
 (qAF args).run e fun vs=>yQ (lvs vs) (orN (call i vs H) fun r=>Cr.rec (motive:=fun _=>R) (fun pan same v H' lo'=>qlS lo lo' fun lo=>Bool.rec (motive:=fun _=>R) (qHo dst v k call n ((spL args).run e) H' lo) (some (.pan v,⟨(spL args).run e,H',lo⟩)) pan) r)
theorem qoN {dst:Option Nat} {i:Nat} {args:List O} {k:K}:qS (qBw dst i args k) (.call (.f i) args) dst k:=by
 intro call n e H lo z h
 unfold qBw at h
 rw [qtL] at h
 obtain ⟨h1,h⟩:=qY h
 obtain ⟨r,hr,h⟩:=kL h
 rw [qwV] at h1
 obtain ⟨pan,same,v,H',lo'⟩:=r
 have h:(qlS lo lo' fun lo=>Bool.rec (motive:=fun _=>R) (qHo dst v k call n ((spL args).run e) H' lo) (some (.pan v,⟨(spL args).run e,H',lo⟩)) pan)=some z:=h
 rw [qhf,qv6] at h
 have he:qa call (.call (.f i) args) ⟨e,H,lo⟩=some ⟨pan,same,v,⟨spentAll args e,H',min lo lo'⟩⟩:=by
  simp only [qa,jc,rd,List.nil_append,List.append_nil,h1,if_true,hr]
 rw [he]
 cases pan with
 | false=>exact qxa h
 | true=>
  have h:some (Ex.pan v,(⟨spentAll args e,H',min lo lo'⟩:St))=some z:=h
  cases h
  exact ⟨_,rfl,.inr ⟨rfl,rfl⟩⟩
noncomputable def qwt {β γ:Type} (l m:List β) (κ:List β→γ):γ:=List.rec (motive:=fun _=>(List β→γ)→γ) (fun κ=>κ m) (fun x _ ih κ=>ih fun t=>κ (x::t)) l κ
theorem qtj {β γ:Type} (l m:List β) (κ:List β→γ):qwt l m κ=κ (l++m):=by
 induction l generalizing κ with
 | nil=>rfl
 | cons x l ih=>exact ih fun t=>κ (x::t)
noncomputable def qCf (d:Nat) (l:L) (bytes:Nat) (x y:O) (g k:K):KF:=fun call n e H lo=>
 match frd e x with
 | .row id sz len=>match fnth H id with
  | some (.row l' cs)=>match qtR l (frd e y) with
   | some ys=>Bool.rec (motive:=fun _=>R) none (zU (fun v k=>jI v k) (qaQ ys) fun new=>qwt cs new fun cs=>qme .dead H id fun H2=>qwt H2 [.row l' cs] fun H3=>qo (z5 H) fun m=>qo (Nat.add len (z5 ys)) fun len2=>qlS lo id fun lo=>k.run call n ((d,.row m sz len2)::e) H3 lo)
     (qM8 sz l.n && (qM8 (z5 cs) (len * sz) && (kI l.n ys && roomy bytes (len+z5 ys))))
   | none=>none
  | _=>g.run call n e H lo
 | _=>g.run call n e H lo
theorem qxb {d:Nat} {l:L} {bytes:Nat} {x y:O} {g k:K} (hg:qS g.run (.appendR l bytes x y) (some d) k):qS (qCf d l bytes x y g k) (.appendR l bytes x y) (some d) k:=by
 intro call n e H lo z h
 unfold qCf at h
 rw [yS] at h
 split at h
 ·rename_i id sz len hx
  rw [zH] at h
  split at h
  ·rename_i l' cs hob
   rw [yS] at h
   split at h
   ·rename_i ys hys
    rw [kh cs,kh ys,kh H] at h
    cases hb:(qM8 sz l.n && (qM8 cs.length (len * sz) && (kI l.n ys && roomy bytes (len+ys.length)))) with
    | false=>rw [hb] at h;cases h
    | true=>
     rw [hb] at h
     have h:(zU (fun v k=>jI v k) (qaQ ys) fun new=>qwt cs new fun cs=>qme .dead H id fun H2=>qwt H2 [.row l' cs] fun H3=>qo H.length fun m=>qo (Nat.add len ys.length) fun len2=>qlS lo id fun lo=>k.run call n ((d,.row m sz len2)::e) H3 lo)=some z:=h
     rw [kp zy,qtj] at h
     have h:=qcc h
     rw [qtj,kr,kr,qhf] at h
     have he:qa call (.appendR l bytes x y) ⟨e,H,lo⟩=some ⟨false,false,.row H.length sz (len+ys.length),⟨e,qN H id .dead++[.row l' (cs++qaQ ys)],min lo id⟩⟩:=by
      simp only [qa,yp,hys,hx,hob,hb,cond_true]
      rfl
     rw [he]
     exact ql rfl h
   ·cases h
  ·exact hg h
 ·exact hg h
noncomputable def fTk {β γ:Type} (l:List β):Nat→(List β→γ)→γ:=List.rec (motive:=fun _=>Nat→(List β→γ)→γ) (fun _ κ=>κ []) (fun x _ ih n κ=>Nat.rec (motive:=fun _=>γ) (κ []) (fun m _=>ih m fun t=>κ (x::t)) n) l
theorem qwp {β γ:Type}:∀(l:List β) (n:Nat) (κ:List β→γ),fTk l n κ=κ (l.take n)
 | [],n,κ=>by simp [fTk]
 | x::l,0,κ=>rfl
 | x::l,n+1,κ=>by
  show fTk l n (fun t=>κ (x::t))=_
  rw [qwp];rfl
theorem qAB {a b:Int} (h:leI a b=true):a≤b:=by
 cases a<;>cases b<;>simp only [leI] at h
 ·have:=Nat.le_of_ble_eq_true h
  simp only [Int.ofNat_eq_natCast];omega
 ·cases h
 ·simp only [Int.ofNat_eq_natCast,Int.negSucc_eq];omega
 ·have:=Nat.le_of_ble_eq_true h
  simp only [Int.negSucc_eq];omega
noncomputable def qIv (d:Nat) (x hi:O) (g k:K):KF:=fun call n e H lo=>
 match frd e x,frd e hi with
 | .row id sz len,.d (.i _ h)=>match fnth H id with
  | some (.row l cs)=>Bool.rec (motive:=fun _=>R) none (fTk cs (h.toNat * sz) fun cs=>qme .dead H id fun H2=>qwt H2 [.row l cs] fun H3=>qo (z5 H) fun m=>qo h.toNat fun hn=>qlS lo id fun lo=>k.run call n ((d,.row m sz hn)::e) H3 lo)
    (leI 0 h && (leI h len && qM8 (z5 cs) (len * sz)))
  | _=>g.run call n e H lo
 | _,_=>g.run call n e H lo
theorem qzv {d:Nat} {x hi:O} {g k:K} (hg:qS g.run (.truncR x hi) (some d) k):qS (qIv d x hi g k) (.truncR x hi) (some d) k:=by
 intro call n e H lo z h
 unfold qIv at h
 rw [yS,yS] at h
 split at h
 ·rename_i id sz len kk hh hx hhi
  rw [zH] at h
  split at h
  ·rename_i l cs hob
   rw [kh cs,kh H] at h
   cases hb:(leI 0 hh && (leI hh len && qM8 cs.length (len * sz))) with
   | false=>rw [hb] at h;cases h
   | true=>
    rw [hb] at h
    have h:(fTk cs (hh.toNat * sz) fun cs=>qme .dead H id fun H2=>qwt H2 [.row l cs] fun H3=>qo H.length fun m=>qo hh.toNat fun hn=>qlS lo id fun lo=>k.run call n ((d,.row m sz hn)::e) H3 lo)=some z:=h
    rw [qwp] at h
    have h:=qcc h
    rw [qtj,kr,kr,qhf] at h
    simp only [qM4] at hb
    have hc:0≤hh∧hh≤(len:Int)∧cs.length=len * sz:=⟨qAB hb.1,qAB hb.2.1,qM5 hb.2.2⟩
    have he:qa call (.truncR x hi) ⟨e,H,lo⟩=some ⟨false,false,.row H.length sz hh.toNat,⟨e,qN H id .dead++[.row l (cs.take (hh.toNat * sz))],min lo id⟩⟩:=by
     simp only [qa,qcw,hx,hhi,hob,hc,and_self,if_true]
     rfl
    rw [he]
    exact ql rfl h
  ·exact hg h
 ·exact hg h
noncomputable def fDr {β γ:Type} (l:List β):Nat→(List β→γ)→γ:=List.rec (motive:=fun _=>Nat→(List β→γ)→γ) (fun _ κ=>κ []) (fun x r ih n κ=>Nat.rec (motive:=fun _=>γ) (κ (x::r)) (fun m _=>ih m κ) n) l
theorem qz3 {β γ:Type}:∀(l:List β) (n:Nat) (κ:List β→γ),fDr l n κ=κ (l.drop n)
 | [],n,κ=>by simp [fDr]
 | x::l,0,κ=>rfl
 | x::l,n+1,κ=>by
  show fDr l n κ=_
  rw [qz3];rfl
noncomputable def fDc {β γ:Type} (l:List β) (n:Nat) (κ:List β→γ):γ:=fDr (qvg l (Nat.div n 16)) (Nat.mod n 16) κ
theorem qwv {β γ:Type} (l:List β) (n:Nat) (κ:List β→γ):fDc l n κ=κ (l.drop n):=by
 unfold fDc
 rw [qz3,qqK,List.drop_drop]
 congr 2
 have e:Nat.div n 16=n / 16:=rfl
 have e2:Nat.mod n 16=n % 16:=rfl
 rw [e,e2];omega
noncomputable def qGY (d:Nat) (x a:O) (g k:K):KF:=fun call n e H lo=>
 asT ((kF x).run e) (g.run call n e H lo) fun t=>asN ((kF a).run e) none fun _ z=>qsq z fun m=>Bool.rec (motive:=fun _=>R) none (fDc t m fun r=>k.run call n ((d,.d (.s r))::e) H lo) (Nat.ble m (z5 t))
theorem qzj {d:Nat} {x a:O} {g k:K} (hg:qS g.run (.sliceS x (some a) none) (some d) k):qS (qGY d x a g k) (.sliceS x (some a) none) (some d) k:=by
 intro call n e H lo z h
 unfold qGY at h
 rcases qnq h with h|⟨t,hx,h⟩
 ·exact hg h
 rcases qbm h with h|⟨kk,w,hi,h⟩
 ·cases h
 obtain ⟨m,rfl,h1⟩:=qfT h
 replace h:=h1
 clear h1
 rw [kh] at h
 cases hb:Nat.ble m t.length with
 | false=>rw [hb] at h;cases h
 | true=>
  rw [hb,qwv] at h
  have hx':rd e x=.d (.s t):=(ki (by rw [hx];trivial)).trans hx
  have h0:leI 0 (Int.ofNat m)=true:=by show Nat.ble 0 m=true;exact Nat.ble_eq_true_of_le (Nat.zero_le m)
  have h1:leI (Int.ofNat m) (t.length:Int)=true:=hb
  have h2:leI (t.length:Int) (t.length:Int)=true:=Nat.ble_eq_true_of_le (qM7 _)
  have he:qa call (.sliceS x (some a) none) ⟨e,H,lo⟩=some ⟨false,true,.d (.s (t.drop m)),⟨e,H,lo⟩⟩:=by
   simp only [qa,jz,qO,hx',qnI hi,qdE,qj9,Option.getD_some,Option.getD_none,h0,h1,h2,qNf,cond_true,ok]
   simp
  rw [he];exact ql rfl h
noncomputable def qJB (d:Nat) (x a b:O) (g k:K):KF:=fun call n e H lo=>
 asT ((kF x).run e) (g.run call n e H lo) fun t=>asN ((kF a).run e) none fun _ z=>qsq z fun m=>asN ((kF b).run e) none fun _ z=>qsq z fun p=>Bool.rec (motive:=fun _=>R) none (Bool.rec (motive:=fun _=>R) none (fDc t m fun r=>fTk r (Nat.sub p m) fun r=>k.run call n ((d,.d (.s r))::e) H lo) (Nat.ble p (z5 t))) (Nat.ble m p)
theorem qzI {d:Nat} {x a b:O} {g k:K} (hg:qS g.run (.sliceS x (some a) (some b)) (some d) k):qS (qJB d x a b g k) (.sliceS x (some a) (some b)) (some d) k:=by
 intro call n e H lo z h
 unfold qJB at h
 rcases qnq h with h|⟨t,hx,h⟩
 ·exact hg h
 rcases qbm h with h|⟨kk,w,hi,h⟩
 ·cases h
 obtain ⟨m,rfl,h1⟩:=qfT h
 replace h:=h1
 clear h1
 rcases qbm h with h|⟨kk2,w2,hi2,h⟩
 ·cases h
 obtain ⟨p,rfl,h1⟩:=qfT h
 replace h:=h1
 clear h1
 rw [kh] at h
 cases hc:Nat.ble m p with
 | false=>rw [hc] at h;cases h
 | true=>
 rw [hc] at h
 cases hb:Nat.ble p t.length with
 | false=>rw [hb] at h;cases h
 | true=>
  rw [hb] at h
  have h:(fDc t m fun r=>fTk r (Nat.sub p m) fun r=>k.run call n ((d,.d (.s r))::e) H lo)=some z:=h
  rw [qwv,qwp] at h
  have hx':rd e x=.d (.s t):=(ki (by rw [hx];trivial)).trans hx
  have h0:leI 0 (Int.ofNat m)=true:=by show Nat.ble 0 m=true;exact Nat.ble_eq_true_of_le (Nat.zero_le m)
  have h1:leI (Int.ofNat m) (Int.ofNat p)=true:=hc
  have h2:leI (Int.ofNat p) (t.length:Int)=true:=hb
  have he:qa call (.sliceS x (some a) (some b)) ⟨e,H,lo⟩=some ⟨false,true,.d (.s ((t.drop m).take (Nat.sub p m))),⟨e,H,lo⟩⟩:=by
   simp only [qa,jz,qO,hx',qnI hi,qnI hi2,qdE,qj9,Option.getD_some,h0,h1,h2,qNf,cond_true,ok]
   show some _=some _
   congr 4
   exact List.drop_take
  rw [he];exact ql rfl h
noncomputable def qz0 (d:Nat) (c a b:O) (k:K):KF:=fun call n e H lo=>
 asB ((kF c).run e) ((rdC a).run e fun v=>k.run call n ((d,v)::e) H lo) ((rdC b).run e fun v=>k.run call n ((d,v)::e) H lo)
theorem qvX {d:Nat} {c a b:O} {k:K}:qS (qz0 d c a b k) (.pick c a b) (some d) k:=by
 intro call n e H lo z h
 unfold qz0 at h
 rw [qht,qht] at h
 rcases qp2 h with ⟨hx,h⟩|⟨hx,h⟩
 ·have hx':rd e c=.d (.b true):=(ki (by rw [hx];trivial)).trans hx
  rw [show qa call (.pick c a b) ⟨e,H,lo⟩=some ⟨false,true,rd e a,⟨e,H,lo⟩⟩ by simp only [qa,qfp,hx',if_true,ok]]
  exact ql (qwW e a) h
 ·have hx':rd e c=.d (.b false):=(ki (by rw [hx];trivial)).trans hx
  rw [show qa call (.pick c a b) ⟨e,H,lo⟩=some ⟨false,true,rd e b,⟨e,H,lo⟩⟩ by simp only [qa,qfp,hx',qNa,if_false,ok]]
  exact ql (qwW e b) h
noncomputable def asF (v:V) (z:R) (κ:Nat→R):R:=OF.rec (motive:=fun _=>R) z κ (vF v)
theorem quJ {v:V} {z:R} {κ:Nat→R} {x:Ex × St} (h:asF v z κ=some x):z=some x∨∃i,v=.fn i [] []∧κ i=some x:=by
 unfold asF at h
 cases hv:vF v with
 | no=>rw [hv] at h;exact .inl h
 | f i=>rw [hv] at h;exact .inr ⟨i,qM1 hv,h⟩
theorem qBG {call:Call} {f:O} {args:List O} {e:Env} {H:List Obj} {lo i:Nat} (hx:(kF f).run e=.fn i [] []):qa call (.call f args) ⟨e,H,lo⟩=qa call (.call (.f i) args) ⟨e,H,lo⟩:=by
 have hx':rd e f=.fn i [] []:=(ki (by rw [hx];trivial)).trans hx
 have e2:rd e (.f i)=.fn i [] []:=rfl
 simp only [qa,jc,hx',e2]
noncomputable def qIb (dst:Option Nat) (f:O) (args:List O) (g k:K):KF:=fun call n e H lo=>
 asF ((kF f).run e) (g.run call n e H lo) fun i=>qBw dst i args k call n e H lo
theorem qzQ {dst:Option Nat} {f:O} {args:List O} {g k:K} (hg:qS g.run (.call f args) dst k):qS (qIb dst f args g k) (.call f args) dst k:=by
 intro call n e H lo z h
 unfold qIb at h
 rcases quJ h with h|⟨i,hi,h⟩
 ·exact hg h
 ·rw [qBG hi];exact qoN h
noncomputable def qrT (dst:Option Nat) (op:OpK) (k:K):K:=
 match dst with
 | some d=>match op with
  | .mov x=>.mk (qIk d x k)
  | .bin op kd x y=>qJT d op kd x y k
  | .load false sl l a=>.mk (qFE d sl l a (gK (some d) (.load false sl l a) k) k)
  | .loadC l a=>.mk (qv8 d l a k)
  | .nilCheck a=>.mk (qHs d a (gK (some d) (.nilCheck a) k) k)
  | .fieldAddr a o l=>.mk (qJ1 d a o l (gK (some d) (.fieldAddr a o l) k) k)
  | .indexAddr x i size none=>.mk (qHV d x i size (gK (some d) (.indexAddr x i size none) k) k)
  | .index x i=>.mk (qGZ d x i k)
  | .extract (.t m) i=>.mk (qJu d m i k)
  | .bi .lenS [x]=>.mk (qBg d x k)
  | .bi .lenL [x]=>.mk (qAC d x (gK (some d) (.bi .lenL [x]) k) k)
  | .bi (.append size bytes) [x,y]=>.mk (qJR d size bytes x y (gK (some d) (.bi (.append size bytes) [x,y]) k) k)
  | .un .not x=>.mk (qGx d x k)
  | .alloc false zero=>.mk (qJj d zero k)
  | .mkMap=>.mk (qHb d k)
  | .lookup kk zero m q c=>.mk (qAa d kk zero m q c (gK (some d) (.lookup kk zero m q c) k) k)
  | .buildSlice zero 1 [(0,x)]=>.mk (qGX d zero x (gK (some d) (.buildSlice zero 1 [(0,x)]) k) k)
  | .call (.f i) args=>.mk (qBw (some d) i args k)
  | .appendR l b x y=>.mk (qCf d l b x y (gK (some d) (.appendR l b x y) k) k)
  | .truncR x hi=>.mk (qIv d x hi (gK (some d) (.truncR x hi) k) k)
  | .pick c a b=>.mk (qz0 d c a b k)
  | .call f args=>.mk (qIb (some d) f args (gK (some d) (.call f args) k) k)
  | .sliceS x (some a) none=>.mk (qGY d x a (gK (some d) (.sliceS x (some a) none) k) k)
  | .sliceS x (some a) (some b)=>.mk (qJB d x a b (gK (some d) (.sliceS x (some a) (some b)) k) k)
  | op=>gK (some d) op k
 | none=>match op with
  | .store sl ⟨1,false⟩ a x=>.mk (qL7 sl a x (gK none (.store sl ⟨1,false⟩ a x) k) k)
  | .mapUpdate kk m q x=>.mk (qI9 kk m q x k)
  | .call (.f i) args=>.mk (qBw none i args k)
  | op=>gK none op k
theorem qzM {dst:Option Nat} {op:OpK} {k:K}:qS (qrT dst op k).run op dst k:=by
 unfold qrT
 split
 ·split
  ·exact qy7
  ·exact qzG
  ·exact qw1 ke
  ·exact quw
  ·exact qzU ke
  ·exact qyY ke
  ·exact qyv ke
  ·exact qzs
  ·exact qy0
  ·exact qwE
  ·exact qw9 ke
  ·exact qyF ke
  ·exact qzJ
  ·exact qzP
  ·exact qyt
  ·exact qwn ke
  ·exact qzq ke
  ·exact qoN
  ·exact qxb ke
  ·exact qzv ke
  ·exact qvX
  ·exact qzQ ke
  ·exact qzj ke
  ·exact qzI ke
  ·exact ke
 ·split
  ·exact qyl ke
  ·exact qzx
  ·exact qoN
  ·exact ke
theorem qm4 {dst:Option Nat} {op:OpK} {k:K} {call:Call} {n:Nat} {e:Env} {H:List Obj} {lo:Nat} {z:Ex × St} (h:(qrT dst op k).run call n e H lo=some z):qse (qa call op ⟨e,H,lo⟩) dst k call n z:=qzM h
noncomputable def vG (v:V):Option (Option Bool):=V.rec (motive_1:=fun _=>Option (Option Bool)) (motive_2:=fun _=>Option (Option Bool)) (fun x=>D.rec (motive_1:=fun _=>Option (Option Bool)) (motive_2:=fun _=>Option (Option Bool)) (fun y=>some (some y)) (fun _ _=>none) (fun _=>none) none (fun _ _=>none) (fun _ _=>none) none none none none none (fun _ _ _ _=>none) x) (fun _=>none) (fun _=>none) (fun _ _=>none) (fun _ _=>none) (fun _ _=>none) (fun _=>none) (fun _ _ _ _=>none) (fun _ _ _=>none) (fun _=>none) (fun _ _ _ _ _=>none) (fun _ _ _=>none) (fun _ _=>none) (fun vs _=>List.rec (motive:=fun _=>Option (Option Bool)) (some none) (fun _ _ _=>none) vs) none none (fun _ _ _ _=>none) v
theorem qFD (m:Nat) (w:Bool) (e:Env):wanted (some (m,w)) e=Option.rec (motive:=fun _=>Option Bool) none (fun r=>Option.rec (motive:=fun _=>Option Bool) (some false) (fun z=>some (z == w)) r) (vG (fget m e)):=by
 rw [yI]
 simp only [wanted]
 cases get m e with
 | d x=>cases x<;>rfl
 | tup vs=>cases vs<;>rfl
 | _=>rfl
noncomputable def eqB (a b:Bool):Bool:=Bool.rec (motive:=fun _=>Bool) (Bool.rec (motive:=fun _=>Bool) true false b) b a
theorem qBf (a b:Bool):eqB a b=(a == b):=by cases a<;>cases b<;>rfl
noncomputable def qAk (o:Op) (k:K):K:=
 match o.g with
 | none=>qrT o.dst o.k k
 | some (m,w)=>.mk fun call n e H lo=>orN (vG (fget m e)) fun r=>Option.rec (motive:=fun _=>R) (qhZ o.dst (.tup []) k call n e H lo) (fun z=>Bool.rec (motive:=fun _=>R) (qhZ o.dst (.tup []) k call n e H lo) ((qrT o.dst o.k k).run call n e H lo) (eqB z w)) r
noncomputable def qhx (l:List Op) (k:K):K:=List.rec (motive:=fun _=>K) k (fun o _ ih=>qAk o ih) l
theorem qkC {pg:Pg} {call:Call} (hc:yT call (qf pg)) {n:Nat} {k:K}:∀(l:List Op) {e:Env} {H:List Obj} {lo:Nat} {x:Ex × St},(qhx l k).run call n e H lo=some x→quc pg (qn (qf pg) l ⟨e,H,lo⟩) k call n x
 | [],e,H,lo,x,h=>.inl ⟨⟨e,H,lo⟩,rfl,h⟩
 | o::l,e,H,lo,x,h=>by
  have h:(qAk o (qhx l k)).run call n e H lo=some x:=h
  have key:wanted o.g e=some true→(qrT o.dst o.k (qhx l k)).run call n e H lo=some x→quc pg (qn (qf pg) (o::l) ⟨e,H,lo⟩) k call n x:=by
   intro hw h
   obtain ⟨q,hq,hq2⟩:=qm4 h
   have hq':=qge hc hq
   simp only [qn,hw,hq']
   rcases hq2 with ⟨hp,st,hst,hrun⟩|⟨hp,rfl⟩
   ·rw [hp,hst]
    exact qkC hc l hrun
   ·rw [hp]
    exact .inr ⟨rfl,by simp⟩
  have skip:wanted o.g e=some false→qhZ o.dst (.tup []) (qhx l k) call n e H lo=some x→quc pg (qn (qf pg) (o::l) ⟨e,H,lo⟩) k call n x:=by
   intro hw' h
   obtain ⟨q,hq,hq2⟩:=qjk (same:=true) h
   cases hq
   rcases hq2 with ⟨_,st,hst,hrun⟩|⟨hp,_⟩
   ·simp only [qn,hw']
    rw [hst]
    exact qkC hc l hrun
   ·cases hp
  unfold qAk at h
  split at h
  ·rename_i hg
   exact key (by rw [hg];rfl) h
  ·rename_i m w hg
   have h:(orN (vG (fget m e)) fun r=>Option.rec (motive:=fun _=>R) (qhZ o.dst (.tup []) (qhx l k) call n e H lo) (fun z=>Bool.rec (motive:=fun _=>R) (qhZ o.dst (.tup []) (qhx l k) call n e H lo) ((qrT o.dst o.k (qhx l k)).run call n e H lo) (eqB z w)) r)=some x:=h
   obtain ⟨r,hr,h⟩:=kL h
   have hw:=qFD m w e
   rw [hr] at hw
   rw [←hg] at hw
   cases r with
   | none=>exact skip hw h
   | some z=>
    have hw:wanted o.g e=some (z == w):=hw
    rw [←qBf] at hw
    have h:Bool.rec (motive:=fun _=>R) (qhZ o.dst (.tup []) (qhx l k) call n e H lo) ((qrT o.dst o.k (qhx l k)).run call n e H lo) (eqB z w)=some x:=h
    cases hb:eqB z w with
    | false=>rw [hb] at h hw;exact skip hw h
    | true=>rw [hb] at h hw;exact key hw h
noncomputable def nbK (k:K):K:=.mk fun call n e H lo=>List.rec (motive:=fun _=>R) none (fun p _ _=>Prod.rec (motive:=fun _=>R) (fun _ v=>qkT v none fun _=>k.run call n e H lo) p) e
theorem qvq {k:K} {call:Call} {n d:Nat} {v:V} {e:Env} {H:List Obj} {lo:Nat} {x:Ex × St} (h:(nbK k).run call n ((d,v)::e) H lo=some x):v.isBox=false∧k.run call n ((d,v)::e) H lo=some x:=by
 have h:qkT v none (fun _=>k.run call n ((d,v)::e) H lo)=some x:=h
 rcases qkU h with h|h
 ·cases h
 ·exact h
def qx3:OpK→Bool
 | .mov _ | .pick _ _ _ | .build _ _ | .buildSlice _ _ _ | .load _ _ _ _ | .loadC _ _ | .nilCheck _ | .bin _ _ _ _ | .un _ _ | .conv _ _ | .fieldAddr _ _ _ | .field _ _ _ | .indexAddr _ _ _ _ | .index _ _ | .extract _ _ | .bi _ _ | .store _ _ _ _ | .lookup _ _ _ _ _ | .sliceS _ _ _ | .appendR _ _ _ _=>true
 | _=>false
def qvU:OpK→Bool
 | .load mv _ _ _=>!mv
 | .store _ _ _ _ | .appendR _ _ _ _=>false
 | _=>true
theorem qFF {v:V} {st:St} {q:Or} (h:ok v st=some q):q.pan=false∧q.same=true:=by cases h;exact ⟨rfl,rfl⟩
theorem qLc {v:V} {st:St} {q:Or} (h:okH v st=some q):q.pan=false:=by cases h;rfl
theorem qD8 {op:OpK} (hf:qx3 op=true) {call:Call} {st:St} {q:Or} (h:qa call op st=some q):q.pan=false∧(qvU op=true→q.same=true):=by
 cases op<;>first
  | cases hf;done
  | skip
 all_goals simp only [qa,qrL,qfp,qcm,kc,zD,qcn,kP,qoY,eUn,qkP,qW,qgc,qX,jp,zM,qfx,jl,eBi,qjD,qcB,qnV,yE,yU,zG,jz,yp,qM3] at h
 all_goals repeat' split at h
 all_goals first
  | (cases h;done)
  | exact ⟨(qFF h).1,fun _=>(qFF h).2⟩
  | exact ⟨qLc h,fun hp=>by first|(cases hp;done)|(simp_all [qvU])⟩
def qqN (f:KF) (op:OpK) (se:Bool) (no:List Nat) (dst:Option Nat) (k:K):Prop:=∀{call:Call} {n:Nat} {e:Env} {H:List Obj} {lo:Nat} {x:Ex × St},f call n e H lo=some x→
 ∃q,qa call op ⟨e,H,lo⟩=some q∧((q.pan=false∧(q.same || se)=true∧∃st,jq (qpH op) no dst q.v q.st=some st∧k.run call n st.env st.H st.lo=some x)∨(q.pan=true∧qV yx no=true∧x=(.pan q.v,{q.st with env:=[]})))
theorem qyi {bx:Bool} {d:Nat} {v:V} {st:St} (h:v.isBox=false):jq bx [] (some d) v st=some {st with env:=(d,v)::st.env}:=by
 cases v<;>first|rfl|cases h
theorem qFg {k:K} {call:Call} {n d:Nat} {v:V} {st:St} {x:Ex × St} (h:(nbK k).run call n (put (some d) v st).env (put (some d) v st).H (put (some d) v st).lo=some x):v.isBox=false∧k.run call n ((d,v)::st.env) st.H st.lo=some x:=by
 cases v with
 | box cs=>
  have h:(nbK k).run call n ((d,.box cs)::qbl d st.env) st.H st.lo=some x:=h
  have:=(qvq h).1
  cases this
 | _=>exact qvq h
noncomputable def qFI (dst:Option Nat) (op:OpK) (k:K):K:=
 match dst with
 | some d=>qrT (some d) op (nbK k)
 | none=>qrT none op k
theorem qv5 {dst:Option Nat} {op:OpK} {se:Bool} {k:K} (hf:qx3 op=true) (hp:(qvU op || se)=true):qqN (qFI dst op k).run op se [] dst k:=by
 intro call n e H lo x h
 have key:∀q:Or,qa call op ⟨e,H,lo⟩=some q→q.pan=false∧(q.same || se)=true:=fun q hq=>by
  obtain ⟨h1,h2⟩:=qD8 hf hq
  refine ⟨h1,?_⟩
  rw [Bool.or_eq_true] at hp ⊢
  exact hp.imp h2 id
 cases dst with
 | some d=>
  obtain ⟨q,hq,h2⟩:=qm4 (dst:=some d) h
  obtain ⟨h3,h4⟩:=key q hq
  rcases h2 with ⟨_,st,rfl,h5⟩|⟨h5,_⟩
  ·obtain ⟨hb,h6⟩:=qFg h5
   exact ⟨q,hq,.inl ⟨h3,h4,_,qyi hb,h6⟩⟩
  ·rw [h3] at h5;cases h5
 | none=>
  obtain ⟨q,hq,h2⟩:=qm4 (dst:=none) h
  obtain ⟨h3,h4⟩:=key q hq
  rcases h2 with ⟨_,st,rfl,h5⟩|⟨h5,_⟩
  ·exact ⟨q,hq,.inl ⟨h3,h4,_,rfl,h5⟩⟩
  ·rw [h3] at h5;cases h5
noncomputable def qsi (dst:Option Nat) (op:OpK) (se:Bool) (no:List Nat) (k:K):KF:=fun call n e H lo=>
 match (qGI op).run call ⟨e,H,lo⟩ with
 | some ⟨pan,same,v,⟨e',H',lo'⟩⟩=>Bool.rec (motive:=fun _=>R) (Bool.rec (motive:=fun _=>R) none
   (qrq (makes op) v fun v=>match jq (qpH op) no dst v ⟨e',H',lo'⟩ with
    | some ⟨e2,H2,lo2⟩=>Bool.rec (motive:=fun _=>R) (qp6 (qnF op) H2 fun H2=>qo lo2 fun lo2=>k.run call n e2 H2 lo2) (k.run call n e2 H2 lo2) same
    | none=>none) (same || se)) (Bool.rec (motive:=fun _=>R) none (some (.pan v,⟨[],H',lo'⟩)) (qV yx no)) pan
 | none=>none
theorem qjl {dst:Option Nat} {op:OpK} {se:Bool} {no:List Nat} {k:K}:qqN (qsi dst op se no k) op se no dst k:=by
 intro call n e H lo x h
 unfold qsi at h
 rw [qx7] at h
 split at h
 ·rename_i pan same v e' H' lo' hq
  cases pan with
  | true=>
   have h:Bool.rec (motive:=fun _=>R) none (some (.pan v,⟨[],H',lo'⟩)) (qV yx no)=some x:=h
   cases hm:qV yx no with
   | false=>rw [hm] at h;cases h
   | true=>
    rw [hm] at h
    exact ⟨_,hq,.inr ⟨rfl,rfl,(Option.some.inj h).symm⟩⟩
  | false=>
   cases hs:(same || se) with
   | false=>rw [hs] at h;cases h
   | true=>
    rw [hs] at h
    have h:(qrq (makes op) v fun v=>match jq (qpH op) no dst v ⟨e',H',lo'⟩ with
     | some ⟨e2,H2,lo2⟩=>Bool.rec (motive:=fun _=>R) (qp6 (qnF op) H2 fun H2=>qo lo2 fun lo2=>k.run call n e2 H2 lo2) (k.run call n e2 H2 lo2) same
     | none=>none)=some x:=h
    rw [qsa] at h
    split at h
    ·rename_i e2 H2 lo2 hp
     refine ⟨_,hq,.inl ⟨rfl,hs,_,hp,?_⟩⟩
     cases same with
     | false=>simpa only [qsk,kr] using h
     | true=>exact h
    ·cases h
 ·cases h
noncomputable def qDn (d i:Nat) (args:List O) (se:Bool) (k:K):KF:=fun call n e H lo=>
 (qAF args).run e fun vs=>yQ (lvs vs) (orN (call i vs H) fun r=>Cr.rec (motive:=fun _=>R) (fun pan same v H' lo'=>qlS lo lo' fun lo=>Bool.rec (motive:=fun _=>R) (Bool.rec (motive:=fun _=>R) none (qkT v none fun v=>k.run call n ((d,v)::(spL args).run e) H' lo) (same || se)) none pan) r)
theorem qsx {d i:Nat} {args:List O} {se:Bool} {k:K}:qqN (qDn d i args se k) (.call (.f i) args) se [] (some d) k:=by
 intro call n e H lo z h
 unfold qDn at h
 rw [qtL] at h
 obtain ⟨h1,h⟩:=qY h
 obtain ⟨r,hr,h⟩:=kL h
 rw [qwV] at h1
 obtain ⟨pan,same,v,H',lo'⟩:=r
 have h:(qlS lo lo' fun lo=>Bool.rec (motive:=fun _=>R) (Bool.rec (motive:=fun _=>R) none (qkT v none fun v=>k.run call n ((d,v)::(spL args).run e) H' lo) (same || se)) none pan)=some z:=h
 rw [qhf,qv6] at h
 cases pan with
 | true=>cases h
 | false=>
  cases hs:(same || se) with
  | false=>rw [hs] at h;cases h
  | true=>
   rw [hs] at h
   have h:qkT v none (fun v=>k.run call n ((d,v)::spentAll args e) H' (min lo lo'))=some z:=h
   rcases qkU h with h|⟨hb,h⟩
   ·cases h
   ·have he:qa call (.call (.f i) args) ⟨e,H,lo⟩=some ⟨false,same,v,⟨spentAll args e,H',min lo lo'⟩⟩:=by
     simp only [qa,jc,rd,List.nil_append,List.append_nil,h1,if_true,hr]
    exact ⟨_,he,.inl ⟨rfl,hs,_,qyi hb,h⟩⟩
theorem qAl {bx:Bool} {d:Nat} {v:V} {st:St} (h:v.isBox=false) (hl:∀m o,v≠.lp m o):jq bx [yx] (some d) v st=some {st with env:=(d,v)::st.env}:=by
 cases v<;>first|exact absurd rfl (hl _ _)|(cases h;done)|rfl
noncomputable def qIr (d i:Nat) (args:List O) (se:Bool) (k:K):KF:=fun call n e H lo=>
 (qAF args).run e fun vs=>yQ (lvs vs) (orN (call i vs H) fun r=>Cr.rec (motive:=fun _=>R) (fun pan same v H' lo'=>qlS lo lo' fun lo=>Bool.rec (motive:=fun _=>R) (Bool.rec (motive:=fun _=>R) none (qtx v none fun v=>k.run call n ((d,v)::(spL args).run e) H' lo) (same || se)) (some (.pan v,⟨[],H',lo⟩)) pan) r)
theorem qzk {d i:Nat} {args:List O} {se:Bool} {k:K}:qqN (qIr d i args se k) (.call (.f i) args) se [yx] (some d) k:=by
 intro call n e H lo z h
 unfold qIr at h
 rw [qtL] at h
 obtain ⟨h1,h⟩:=qY h
 obtain ⟨r,hr,h⟩:=kL h
 rw [qwV] at h1
 obtain ⟨pan,same,v,H',lo'⟩:=r
 have h:(qlS lo lo' fun lo=>Bool.rec (motive:=fun _=>R) (Bool.rec (motive:=fun _=>R) none (qtx v none fun v=>k.run call n ((d,v)::(spL args).run e) H' lo) (same || se)) (some (.pan v,⟨[],H',lo⟩)) pan)=some z:=h
 rw [qhf,qv6] at h
 cases pan with
 | true=>
  have he:qa call (.call (.f i) args) ⟨e,H,lo⟩=some ⟨true,same,v,⟨spentAll args e,H',min lo lo'⟩⟩:=by
   simp only [qa,jc,rd,List.nil_append,List.append_nil,h1,if_true,hr]
  exact ⟨_,he,.inr ⟨rfl,rfl,(Option.some.inj h).symm⟩⟩
 | false=>
  cases hs:(same || se) with
  | false=>rw [hs] at h;cases h
  | true=>
   rw [hs] at h
   have h:qtx v none (fun v=>k.run call n ((d,v)::spentAll args e) H' (min lo lo'))=some z:=h
   obtain ⟨hb,hl,h⟩:=qvx h
   ·have he:qa call (.call (.f i) args) ⟨e,H,lo⟩=some ⟨false,same,v,⟨spentAll args e,H',min lo lo'⟩⟩:=by
     simp only [qa,jc,rd,List.nil_append,List.append_nil,h1,if_true,hr]
    exact ⟨_,he,.inl ⟨rfl,hs,_,qAl hb hl,h⟩⟩
noncomputable def qBM (d:Nat) (f:O) (args:List O) (se:Bool) (g:K) (k:K):KF:=fun call n e H lo=>
 asF ((kF f).run e) (g.run call n e H lo) fun i=>qDn d i args se k call n e H lo
theorem qwA {d:Nat} {f:O} {args:List O} {se:Bool} {g k:K} (hg:qqN g.run (.call f args) se [] (some d) k):qqN (qBM d f args se g k) (.call f args) se [] (some d) k:=by
 intro call n e H lo z h
 unfold qBM at h
 rcases quJ h with h|⟨i,hi,h⟩
 ·exact hg h
 ·rw [qBG hi];exact qsx h
noncomputable def qwB (dst:Option Nat) (op:OpK) (se:Bool) (no:List Nat) (k:K):K:=
 match no,op,dst with
 | [],.call (.f i) args,some d=>.mk (qDn d i args se k)
 | [],.call f args,some d=>.mk (qBM d f args se (.mk (qsi (some d) (.call f args) se [] k)) k)
 | [m],.call (.f i) args,some d=>match Nat.decEq m yx with
  | .isTrue _=>.mk (qIr d i args se k)
  | .isFalse _=>.mk (qsi (some d) (.call (.f i) args) se [m] k)
 | [],op,dst=>Bool.rec (motive:=fun _=>K) (.mk (qsi dst op se [] k)) (qFI dst op k) (qx3 op && (qvU op || se))
 | no,op,dst=>.mk (qsi dst op se no k)
theorem qyz {dst:Option Nat} {op:OpK} {se:Bool} {no:List Nat} {k:K}:qqN (qwB dst op se no k).run op se no dst k:=by
 unfold qwB
 split
 ·exact qsx
 ·refine qwA ?_
  intro call n e H lo x h
  exact qjl h
 ·split
  ·rename_i hm _
   subst hm
   exact qzk
  ·exact qjl
 ·cases hb:(qx3 op && (qvU op || se)) with
  | false=>exact qjl
  | true=>
   rw [qM4] at hb
   exact qv5 hb.1 hb.2
 ·exact qjl
noncomputable def qtD (l:List (Op × Bool × List Nat)) (k:K):K:=List.rec (motive:=fun _=>K) k (fun p _ ih=>match p with
 | (⟨dst,op,none⟩,se,no)=>qwB dst op se no ih
 | (⟨dst,op,some (m,w)⟩,se,no)=>.mk fun call n e H lo=>orN (vG (fget m e)) fun r=>Option.rec (motive:=fun _=>R) (qhZ dst (.tup []) ih call n e H lo) (fun z=>Bool.rec (motive:=fun _=>R) (qhZ dst (.tup []) ih call n e H lo) ((qwB dst op se no ih).run call n e H lo) (eqB z w)) r) l
theorem qo4 {pg:Pg} {call:Call} (hc:yT call (qf pg)) {n:Nat} {k:K}:∀(l:List (Op × Bool × List Nat)) {e:Env} {H:List Obj} {lo:Nat} {x:Ex × St},(qtD l k).run call n e H lo=some x→quc pg (qz (qf pg) l ⟨e,H,lo⟩) k call n x
 | [],e,H,lo,x,h=>.inl ⟨⟨e,H,lo⟩,rfl,h⟩
 | (⟨dst,op,g⟩,se,no)::l,e,H,lo,x,h=>by
  have key:wanted g e=some true→(qwB dst op se no (qtD l k)).run call n e H lo=some x→quc pg (qz (qf pg) ((⟨dst,op,g⟩,se,no)::l) ⟨e,H,lo⟩) k call n x:=by
   intro hw h
   obtain ⟨q,hq,⟨hp,hs,st,hst,hrun⟩|⟨hp,hm,hx⟩⟩:=qyz h
   rotate_left
   ·have hq':=qge hc hq
    refine .inr ⟨?_,by rw [hx];exact nofun⟩
    simp only [qz,hw,hq',hp,Bool.true_or,cond_true,qyr,hm,qNf,hx]
   have hq':=qge hc hq
   simp only [qz,hw,hq',hp,hs,hst,qNd,Bool.or_self,cond_false]
   exact qo4 hc l hrun
  have skip:wanted g e=some false→qhZ dst (.tup []) (qtD l k) call n e H lo=some x→quc pg (qz (qf pg) ((⟨dst,op,g⟩,se,no)::l) ⟨e,H,lo⟩) k call n x:=by
   intro hw' h
   obtain ⟨q,hq,hq2⟩:=qjk (same:=true) h
   cases hq
   rcases hq2 with ⟨_,st,hst,hrun⟩|⟨hp,_⟩
   ·simp only [qz,hw']
    rw [hst]
    exact qo4 hc l hrun
   ·cases hp
  cases g with
  | none=>exact key rfl h
  | some mw=>
   obtain ⟨m,w⟩:=mw
   have h:(orN (vG (fget m e)) fun r=>Option.rec (motive:=fun _=>R) (qhZ dst (.tup []) (qtD l k) call n e H lo) (fun z=>Bool.rec (motive:=fun _=>R) (qhZ dst (.tup []) (qtD l k) call n e H lo) ((qwB dst op se no (qtD l k)).run call n e H lo) (eqB z w)) r)=some x:=h
   obtain ⟨r,hr,h⟩:=kL h
   have hw:=qFD m w e
   rw [hr] at hw
   cases r with
   | none=>exact skip hw h
   | some z=>
    have hw:wanted (some (m,w)) e=some (z == w):=hw
    rw [←qBf] at hw
    have h:Bool.rec (motive:=fun _=>R) (qhZ dst (.tup []) (qtD l k) call n e H lo) ((qwB dst op se no (qtD l k)).run call n e H lo) (eqB z w)=some x:=h
    cases hb:eqB z w with
    | false=>rw [hb] at h hw;exact skip hw h
    | true=>rw [hb] at h hw;exact key hw h
noncomputable def qgH:K:=.mk fun _ _ e H lo=>some (.nrm,⟨e,H,lo⟩)
noncomputable def frest (live:List Nat) (e:Env) (κ:Env→R):R:=
 List.rec (motive:=fun _=>(Env→R)→R) (fun κ=>κ []) (fun n _ ih κ=>qCk (fget n e) fun v=>ih fun r=>κ ((n,v)::r)) live κ
theorem qnU (live:List Nat) (e:Env) (κ:Env→R):frest live e κ=κ (restrict live e):=by
 induction live generalizing κ with
 | nil=>rfl
 | cons n l ih=>
  show qCk (fget n e) (fun v=>frest l e fun r=>κ ((n,v)::r))=_
  rw [qCi,ih,yI]
  rfl
noncomputable def onX (r:R) (fn:Env→List Obj→Nat→R) (fx:Nat→Env→List Obj→Nat→R):R:=
 Option.rec (motive:=fun _=>R) none (fun p=>Prod.rec (motive:=fun _=>R) (fun ex st=>St.rec (motive:=fun _=>R) (fun e H lo=>Ex.rec (motive:=fun _=>R) (fn e H lo) (fun j=>fx j e H lo) (some (.ret,⟨e,H,lo⟩)) (fun v=>some (.pan v,⟨e,H,lo⟩)) ex) st) p) r
noncomputable def qFt (id:Nat) (live:List Nat) (k:K) (call:Call) (n:Nat) (r:R):R:=
 onX r (fun e H lo=>frest live e fun e=>k.run call n e H lo) fun j e H lo=>Bool.rec (motive:=fun _=>R) (some (.exit j,⟨e,H,lo⟩)) (frest live e fun e=>k.run call n e H lo) (qM8 j id)
noncomputable def qxM (live:List Nat) (a:K) (call:Call) (n:Nat):Env→List Obj→Nat→R:=
 Nat.rec (motive:=fun _=>Env→List Obj→Nat→R) (fun _ _ _=>none) (fun m ih e H lo=>frest live e fun e=>onX (a.run call m e H lo) ih fun j e H lo=>some (.exit j,⟨e,H,lo⟩)) n
noncomputable def qmR (c:C):K→K:=
 C.rec (motive:=fun _=>K→K) (fun k=>k) (fun l k=>qhx l k) (fun l k=>qtD l k)
  (fun _ _ da db k=>da (db k)) (fun o _ _ da db k=>.mk fun call n e H lo=>asB ((kF o).run e) ((da k).run call n e H lo) ((db k).run call n e H lo))
  (fun id live _ da k=>.mk fun call n e H lo=>qFt id live k call n ((da qgH).run call n e H lo))
  (fun live _ da _=>.mk fun call n e H lo=>qxM live (da qgH) call n e H lo)
  (fun id _=>.mk fun _ _ e H lo=>some (.exit id,⟨e,H,lo⟩)) (fun _=>.mk fun _ _ e H lo=>some (.ret,⟨e,H,lo⟩)) (fun _=>.mk fun _ _ _ _ _=>none)
  (fun k l f p0 p1 live _ _ da db kk=>.mk fun call n e H lo=>match frd e f with
   | .fn k' [] [c]=>Bool.rec (motive:=fun _=>R) none (match qaK c H lo with
    | some m=>zU (fun p k=>jI p.2 fun v=>k (p.1,v)) (jK live e) fun base=>qo m fun m=>match rounds (fun st=>(da qgH).run call n st.env st.H st.lo) (fun st=>(db qgH).run call n st.env st.H st.lo) l c p0 p1 base m H lo with
     | some (.nrm,⟨e,H,lo⟩)=>kk.run call n e H lo
     | r=>r
    | none=>none) (qM8 k' k && c.ok)
   | _=>none)
  (fun k f live kk=>.mk fun call n e H lo=>match frd e f with
   | .fn k' [] cap=>Bool.rec (motive:=fun _=>R) none (match call k (.undef::cap) H with
    | some r=>Bool.rec (motive:=fun _=>R) (frest live e fun e=>qqc r.H fun H=>qo (min lo r.lo) fun lo=>kk.run call n e H lo) none r.pan
    | none=>none) (qM8 k' k && V.ok.oks cap)
   | _=>none) c
theorem qou {pg:Pg} {r:R} {call:Call} {n:Nat} {x:Ex × St} (h:quc pg r qgH call n x):r=some x:=by
 rcases h with ⟨s,h1,h2⟩|⟨h1,_⟩
 ·have h2:some (Ex.nrm,(⟨s.env,s.H,s.lo⟩:St))=some x:=h2
  cases h2
  exact h1
 ·exact h1
theorem qzD {pg:Pg} {live:List Nat} {a:C} {st:St}:exL pg (.loop live a) st=(match exL pg a {st with env:=restrict live st.env} with|some (.nrm,st')=>exL pg (.loop live a) st'|r=>r):=by rw [jh];rfl
theorem qqR {pg:Pg} {live:List Nat} {a:C} {da:K} {call:Call} (ih:∀(n:Nat) (e:Env) (H:List Obj) (lo:Nat) (x:Ex × St),da.run call n e H lo=some x→exL pg a ⟨e,H,lo⟩=some x) :
  ∀(n:Nat) {e:Env} {H:List Obj} {lo:Nat} {x:Ex × St},qxM live da call n e H lo=some x→exL pg (.loop live a) ⟨e,H,lo⟩=some x∧x.1≠.nrm
 | 0,e,H,lo,x,h=>by cases h
 | n+1,e,H,lo,x,h=>by
  have h:(frest live e fun e=>onX (da.run call n e H lo) (qxM live da call n) fun j e H lo=>some (.exit j,⟨e,H,lo⟩))=some x:=h
  rw [qnU] at h
  rw [qzD]
  cases hq:da.run call n (restrict live e) H lo with
  | none=>rw [hq] at h;cases h
  | some y=>
   have hy:=ih n _ _ _ _ hq
   obtain ⟨ex,st⟩:=y
   rw [hq] at h
   show (match exL pg a ⟨restrict live e,H,lo⟩ with|some (.nrm,st')=>exL pg (.loop live a) st'|r=>r)=some x∧_
   rw [hy]
   cases ex with
   | nrm=>exact qqR ih n h
   | exit id=>cases h;exact ⟨rfl,by simp⟩
   | ret=>cases h;exact ⟨rfl,by simp⟩
   | pan v=>cases h;exact ⟨rfl,by simp⟩
theorem jP {pg:Pg} {call:Call} (hc:yT call (qf pg)):∀(c:C) (k:K) (n:Nat) (e:Env) (H:List Obj) (lo:Nat) (x:Ex × St),(qmR c k).run call n e H lo=some x→quc pg (exL pg c ⟨e,H,lo⟩) k call n x
 | .skip,k,n,e,H,lo,x,h=>.inl ⟨⟨e,H,lo⟩,by rw [jh];rfl,h⟩
 | .ops l,k,n,e,H,lo,x,h=>by
  have:=qkC hc l h
  rwa [show exL pg (.ops l) ⟨e,H,lo⟩=qn (qf pg) l ⟨e,H,lo⟩ by rw [jh];rfl]
 | .opsD l,k,n,e,H,lo,x,h=>by
  have:=qo4 hc l h
  rwa [show exL pg (.opsD l) ⟨e,H,lo⟩=qz (qf pg) l ⟨e,H,lo⟩ by rw [jh];rfl]
 | .seq a b,k,n,e,H,lo,x,h=>by
  have ha:=jP hc a (qmR b k) n e H lo x h
  rw [show exL pg (.seq a b) ⟨e,H,lo⟩=(match exL pg a ⟨e,H,lo⟩ with|some (.nrm,st')=>exL pg b st'|r=>r) by rw [jh];rfl]
  rcases ha with ⟨s,h1,h2⟩|⟨h1,h2⟩
  ·rw [h1]
   exact jP hc b k n s.env s.H s.lo x h2
  ·rw [h1]
   obtain ⟨ex,st⟩:=x
   cases ex with
   | nrm=>exact absurd rfl h2
   | _=>exact .inr ⟨rfl,h2⟩
 | .cond o a b,k,n,e,H,lo,x,h=>by
  have h:asB ((kF o).run e) ((qmR a k).run call n e H lo) ((qmR b k).run call n e H lo)=some x:=h
  rw [show exL pg (.cond o a b) ⟨e,H,lo⟩=(match rd e o with | .d (.b true)=>exL pg a ⟨e,H,lo⟩ | .d (.b false)=>exL pg b ⟨e,H,lo⟩|_=>none) by rw [jh];rfl]
  rcases qp2 h with ⟨hx,h⟩|⟨hx,h⟩
  ·have hx':rd e o=.d (.b true):=(ki (by rw [hx];trivial)).trans hx
   rw [hx'];exact jP hc a k n e H lo x h
  ·have hx':rd e o=.d (.b false):=(ki (by rw [hx];trivial)).trans hx
   rw [hx'];exact jP hc b k n e H lo x h
 | .block id live a,k,n,e,H,lo,x,h=>by
  have h:qFt id live k call n ((qmR a qgH).run call n e H lo)=some x:=h
  rw [show exL pg (.block id live a) ⟨e,H,lo⟩=(match exL pg a ⟨e,H,lo⟩ with
   | some (.nrm,st')=>some (.nrm,{st' with env:=restrict live st'.env})
   | some (.exit j,st')=>bif qM8 j id then some (.nrm,{st' with env:=restrict live st'.env}) else some (.exit j,st')
   | r=>r) by rw [jh];rfl]
  cases hq:(qmR a qgH).run call n e H lo with
  | none=>rw [hq] at h;cases h
  | some y=>
   have hy:=qou (jP hc a qgH n e H lo y hq)
   rw [hq] at h
   rw [hy]
   obtain ⟨ex,e',H',lo'⟩:=y
   cases ex with
   | nrm=>
    have h:(frest live e' fun e=>k.run call n e H' lo')=some x:=h
    rw [qnU] at h
    exact .inl ⟨_,rfl,h⟩
   | exit j=>
    have h:Bool.rec (motive:=fun _=>R) (some (.exit j,⟨e',H',lo'⟩)) (frest live e' fun e=>k.run call n e H' lo') (qM8 j id)=some x:=h
    cases hb:qM8 j id with
    | true=>
     rw [hb] at h
     have h:(frest live e' fun e=>k.run call n e H' lo')=some x:=h
     rw [qnU] at h
     exact .inl ⟨⟨restrict live e',H',lo'⟩,by simp only [hb,cond_true],h⟩
    | false=>
     rw [hb] at h
     have h:some (Ex.exit j,(⟨e',H',lo'⟩:St))=some x:=h
     cases h
     exact .inr ⟨by simp only [hb,cond_false],by simp⟩
   | ret=>cases h;exact .inr ⟨rfl,by simp⟩
   | pan v=>cases h;exact .inr ⟨rfl,by simp⟩
 | .loop live a,k,n,e,H,lo,x,h=>by
  have h:qxM live (qmR a qgH) call n e H lo=some x:=h
  exact .inr (qqR (fun n e H lo x h=>qou (jP hc a qgH n e H lo x h)) n h)
 | .exit id,k,n,e,H,lo,x,h=>by
  have h:some (Ex.exit id,(⟨e,H,lo⟩:St))=some x:=h
  cases h
  exact .inr ⟨by rw [jh];rfl,by simp⟩
 | .ret,k,n,e,H,lo,x,h=>by
  have h:some (Ex.ret,(⟨e,H,lo⟩:St))=some x:=h
  cases h
  exact .inr ⟨by rw [jh];rfl,by simp⟩
 | .stuck,k,n,e,H,lo,x,h=>by
  have h:none=some x:=h
  cases h
 | .rangeB k l f p0 p1 live a b,kk,n,e,H,lo,x,h=>by
  have h:(match frd e f with
   | .fn k' [] [c]=>Bool.rec (motive:=fun _=>R) none (match qaK c H lo with
    | some m=>zU (fun (p:Nat × V) k=>jI p.2 fun v=>k (p.1,v)) (jK live e) fun base=>qo m fun m=>match rounds (fun st=>(qmR a qgH).run call n st.env st.H st.lo) (fun st=>(qmR b qgH).run call n st.env st.H st.lo) l c p0 p1 base m H lo with
     | some (.nrm,⟨e,H,lo⟩)=>kk.run call n e H lo
     | r=>r
    | none=>none) (qM8 k' k && c.ok)
   | _=>none)=some x:=h
  rw [yS] at h
  rw [show exL pg (.rangeB k l f p0 p1 live a b) ⟨e,H,lo⟩=(match rd e f with
   | .fn k' [] [c]=>bif qM8 k' k && c.ok then (match qaK c H lo with
    | some n=>rounds (exL pg a) (exL pg b) l c p0 p1 (jK live e) n H lo
    | none=>none) else none
   | _=>none) by rw [jh];rfl]
  split at h
  ·rename_i k' c hf
   (try simp only [hf])
   cases hb:(qM8 k' k && c.ok) with
   | false=>rw [hb] at h;cases h
   | true=>
    rw [hb] at h
    (try simp only [cond_true,hb])
    split at h
    ·rename_i m hm
     (try simp only [hm])
     rw [kp (fun p k=>zy p.2 fun v=>k (p.1,v)),kr] at h
     have le:∀y,rounds (fun st=>(qmR a qgH).run call n st.env st.H st.lo) (fun st=>(qmR b qgH).run call n st.env st.H st.lo) l c p0 p1 (jK live e) m H lo=some y→rounds (exL pg a) (exL pg b) l c p0 p1 (jK live e) m H lo=some y:=fun y hy=>
      qiq (fun st z hz=>qou (jP hc a qgH n st.env st.H st.lo z hz)) (fun st z hz=>qou (jP hc b qgH n st.env st.H st.lo z hz)) m hy
     cases hq:rounds (fun st=>(qmR a qgH).run call n st.env st.H st.lo) (fun st=>(qmR b qgH).run call n st.env st.H st.lo) l c p0 p1 (jK live e) m H lo with
     | none=>rw [hq] at h;cases h
     | some y=>
      rw [hq] at h
      rw [le y hq]
      obtain ⟨ex,e',H',lo'⟩:=y
      cases ex with
      | nrm=>exact .inl ⟨_,rfl,h⟩
      | exit id=>cases h;exact .inr ⟨rfl,by simp⟩
      | ret=>cases h;exact .inr ⟨rfl,by simp⟩
      | pan v=>cases h;exact .inr ⟨rfl,by simp⟩
    ·cases h
  ·cases h
 | .rangeZ k f live,kk,n,e,H,lo,x,h=>by
  have h:(match frd e f with
   | .fn k' [] cap=>Bool.rec (motive:=fun _=>R) none (match call k (.undef::cap) H with
    | some r=>Bool.rec (motive:=fun _=>R) (frest live e fun e=>qqc r.H fun H=>qo (min lo r.lo) fun lo=>kk.run call n e H lo) none r.pan
    | none=>none) (qM8 k' k && V.ok.oks cap)
   | _=>none)=some x:=h
  rw [yS] at h
  split at h
  ·rename_i k' cap hf
   cases hb:(qM8 k' k && V.ok.oks cap) with
   | false=>rw [hb] at h;cases h
   | true=>
    rw [hb] at h
    split at h
    ·rename_i r hr
     cases hp:r.pan with
     | true=>rw [hp] at h;cases h
     | false=>
      rw [hp] at h
      have h:(frest live e fun e=>qqc r.H fun H=>qo (min lo r.lo) fun lo=>kk.run call n e H lo)=some x:=h
      rw [qnU,qrY,kr] at h
      refine .inl ⟨⟨restrict live e,r.H,min lo r.lo⟩,?_,h⟩
      rw [jh]
      have hr':=hc _ _ _ _ hr
      show step _ _ _ _=_
      simp only [step,hf,hb,cond_true,hr',hp,cond_false]
    ·cases h
  ·cases h
noncomputable def qBk (own:Bool) (v:V) (κ:V→Option Cr):Option Cr:=V.rec (motive_1:=fun _=>Option Cr) (motive_2:=fun _=>Option Cr) (fun x=>κ (.d x)) (fun xs=>Bool.rec (motive:=fun _=>Option Cr) (κ (.d (.sl xs))) (κ (.osl xs)) own) (fun xs=>κ (.fsl xs)) (fun a b=>κ (.ptr a b)) (fun a b=>κ (.lp a b)) (fun _ _=>none) (fun x=>κ (.cp x)) (fun a b c d=>κ (.rs a b c d)) (fun a b c=>κ (.row a b c)) (fun a=>κ (.map a)) (fun f a b _ _=>κ (.fn f a b)) (fun t x _=>κ (.ifc t x)) (fun cs _=>Bool.rec (motive:=fun _=>Option Cr) (qds (qfU (cs.map zB)) κ) (κ (.agg cs)) own) (fun vs _=>κ (.tup vs)) (κ .undef) none (fun _ _ _ _=>none) v
theorem qE2 (own:Bool) (v:V) (κ:V→Option Cr):qBk own v κ=(match (match v with | .box _=>none|v=>some (bif own then v else copy v)) with|some v=>κ v|none=>none):=by
 cases v with
 | agg cs=>cases own with
  | true=>rfl
  | false=>exact qcl _ _
 | _=>cases own<;>rfl
inductive KX where
 | mk (f:Env→List Obj→Nat→(List V→Option Cr)→Option Cr)
noncomputable def KX.run (k:KX):Env→List Obj→Nat→(List V→Option Cr)→Option Cr:=KX.rec (motive:=fun _=>Env→List Obj→Nat→(List V→Option Cr)→Option Cr) (fun f=>f) k
noncomputable def qKB (own:Bool) (r:Rv) (ih:KX):KX:=
 Rv.rec (motive:=fun _=>KX) (fun n=>.mk fun e H lo κ=>qBk own (fget n e) fun v=>ih.run e H lo fun vs=>κ (v::vs))
  (fun n l=>.mk fun e H lo κ=>match yF own ⟨e,H,lo⟩ (.cell n l) with|some v=>qds v fun v=>ih.run e H lo fun vs=>κ (v::vs)|none=>none) r
noncomputable def qyQ (own:Bool) (l:List Rv):KX:=List.rec (motive:=fun _=>KX) (.mk fun _ _ _ κ=>κ []) (fun r _ ih=>qKB own r ih) l
theorem qCP (own:Bool) (l:List Rv) (e:Env) (H:List Obj) (lo:Nat) (κ:List V→Option Cr):(qyQ own l).run e H lo κ=(match qM own ⟨e,H,lo⟩ l with|some vs=>κ vs|none=>none):=by
 induction l generalizing κ with
 | nil=>rfl
 | cons r l ih=>
  show (qKB own r (qyQ own l)).run e H lo κ=_
  simp only [qM]
  cases r with
  | t n=>
   show qBk own (fget n e) (fun v=>(qyQ own l).run e H lo fun vs=>κ (v::vs))=_
   rw [qE2,yI]
   simp only [ih,yF]
   cases hv:get n e<;>first|rfl|(simp only [];cases qM own ⟨e,H,lo⟩ l<;>rfl)
  | cell n l'=>
   show (match yF own ⟨e,H,lo⟩ (.cell n l') with|some v=>qds v fun v=>(qyQ own l).run e H lo fun vs=>κ (v::vs)|none=>none)=_
   cases yF own ⟨e,H,lo⟩ (.cell n l') with
   | none=>rfl
   | some v=>
    simp only [qcl,ih]
    cases qM own ⟨e,H,lo⟩ l<;>rfl
noncomputable def qKh (v:V):Nat:=V.rec (motive_1:=fun _=>Nat) (motive_2:=fun _=>Nat) (fun _=>0) (fun _=>0) (fun _=>0) (fun a _=>Nat.succ a) (fun _ _=>0) (fun cs _=>V.ref (.box cs)) (fun _=>0) (fun a _ _ _=>Nat.succ a) (fun a _ _=>Nat.succ a) (fun a=>Nat.succ a) (fun f a b _ _=>V.ref (.fn f a b)) (fun t x _=>V.ref (.ifc t x)) (fun cs _=>V.ref (.agg cs)) (fun vs _=>V.ref (.tup vs)) 0 0 (fun _ _ _ _=>0) v
theorem qDR (v:V):qKh v=v.ref:=by cases v<;>rfl
noncomputable def qMb (v:V):Bool:=V.rec (motive_1:=fun _=>Bool) (motive_2:=fun _=>Bool) (fun _=>false) (fun _=>false) (fun _=>false) (fun _ _=>false) (fun _ _=>false) (fun _ _=>false) (fun _=>false) (fun _ _ _ _=>true) (fun _ _ _=>false) (fun _=>false) (fun _ _ _ _ _=>false) (fun _ _ _=>false) (fun _ _=>false) (fun _ _=>false) false false (fun _ _ _ _=>false) v
noncomputable def qtX (H:List Obj) (v:V) (H':List Obj) (lo:Nat):Option Cr:=
 Bool.rec (motive:=fun _=>Option Cr)
  (Bool.rec (motive:=fun _=>Option Cr) none
   (Bool.rec (motive:=fun _=>Option Cr) (some ⟨false,false,v,H',lo⟩) (Bool.rec (motive:=fun _=>Option Cr) (some ⟨false,false,v,H',lo⟩) (some ⟨false,true,v,H,lo⟩) (Nat.ble (z5 H) lo)) (Nat.ble (qKh v) (z5 H))) (lvF v))
  (match leave H false v ⟨[],H',lo⟩ with|some ⟨pan,same,v,H,lo⟩=>qds v fun v=>some (Cr.mk pan same v H lo)|none=>none) (qMb v)
theorem qzh (H:List Obj) (pan:Bool) (v:V) (e e':Env) (H':List Obj) (lo:Nat):leave H pan v ⟨e,H',lo⟩=leave H pan v ⟨e',H',lo⟩:=rfl
theorem qyR (H:List Obj) (v:V) (e:Env) (H':List Obj) (lo:Nat):qtX H v H' lo=leave H false v ⟨e,H',lo⟩:=by
 unfold qtX
 cases hr:qMb v with
 | true=>
  show (match leave H false v ⟨[],H',lo⟩ with|some ⟨pan,same,v,H,lo⟩=>qds v fun v=>some (Cr.mk pan same v H lo)|none=>none)=_
  rw [qzh H false v [] e]
  cases leave H false v ⟨e,H',lo⟩ with
  | none=>rfl
  | some r=>obtain ⟨a,b,c,d,f⟩:=r;exact qcl _ _
 | false=>
  show Bool.rec (motive:=fun _=>Option Cr) none (Bool.rec (motive:=fun _=>Option Cr) (some ⟨false,false,v,H',lo⟩) (Bool.rec (motive:=fun _=>Option Cr) (some ⟨false,false,v,H',lo⟩) (some ⟨false,true,v,H,lo⟩) (Nat.ble (z5 H) lo)) (Nat.ble (qKh v) (z5 H))) (lvF v)=_
  have hs:settle H.length H' v=v:=by cases v<;>first|rfl|cases hr
  unfold leave
  simp only [hs,qAR,qDR,kh]
  cases v.leaves with
  | false=>rfl
  | true=>
   cases Nat.ble v.ref H.length with
   | false=>rfl
   | true=>cases Nat.ble H.length lo<;>rfl
noncomputable def qH0 (vs:List V) (κ:V→Option Cr):Option Cr:=List.rec (motive:=fun _=>Option Cr) (κ (.tup [])) (fun v t _=>List.rec (motive:=fun _=>Option Cr) (κ v) (fun w u _=>κ (.tup (v::w::u))) t) vs
theorem qDq (vs:List V) (κ:V→Option Cr):qH0 vs κ=κ (qkD vs):=by
 cases vs with
 | nil=>rfl
 | cons v t=>cases t<;>rfl
noncomputable def qAP (fn:Fn) (H:List Obj) (st:St):Option Cr:=St.rec (motive:=fun _=>Option Cr) (fun e H' lo=>(qyQ fn.own fn.res).run e H' lo fun vs=>qH0 vs fun v=>qtX H v H' lo) st
theorem qyg (fn:Fn) (H:List Obj) (st:St):qAP fn H st=z8 fn H st:=by
 obtain ⟨e,H',lo⟩:=st
 show ((qyQ fn.own fn.res).run e H' lo fun vs=>qH0 vs fun v=>qtX H v H' lo)=_
 rw [qCP]
 unfold z8
 cases qM fn.own ⟨e,H',lo⟩ fn.res with
 | none=>rfl
 | some vs=>simp only [qDq];exact qyR H _ e H' lo
noncomputable def qBT (fn:Fn):K:=qmR fn.body qgH
noncomputable def exJ (call:Call) (n:Nat):C→St→Option (Ex × St):=fun c st=>(qmR c qgH).run call n st.env st.H st.lo
noncomputable def qDX (pg:Pg) (call:Call) (n:Nat) (H:List Obj) (fn:Fn) (r:R):Option Cr:=
 Option.rec (motive:=fun _=>Option Cr) none (fun p=>Prod.rec (motive:=fun _=>Option Cr) (fun ex st=>Ex.rec (motive:=fun _=>Option Cr)
  (Option.rec (motive:=fun _=>Option Cr) (qAP fn H st) (fun q=>deferred pg (exJ call n) fn H q.1 q.2 st) fn.dfr) (fun _=>none) (qAP fn H st) (fun v=>leave H true v st) ex) p) r
def isNone {α:Type}:Option α→Bool
 | none=>true
 | some _=>false
theorem qyB {α:Type} {o:Option α} (h:isNone o=true):o=none:=by cases o<;>first|rfl|cases h
noncomputable def qDI (vs:List V):Nat→(Env→Option Cr)→Option Cr:=List.rec (motive:=fun _=>Nat→(Env→Option Cr)→Option Cr) (fun _ κ=>κ []) (fun v _ ih m κ=>ih (Nat.succ m) fun r=>κ ((m,v)::r)) vs
theorem qD9 (vs:List V) (m:Nat) (κ:Env→Option Cr):qDI vs m κ=κ (ku m vs):=by
 induction vs generalizing m κ with
 | nil=>rfl
 | cons v vs ih=>exact ih _ _
noncomputable def qaO (pg:Pg) (n:Nat):Call:=
 Nat.rec (motive:=fun _=>Call) (fun _ _ _=>none) (fun m ih f vs H=>Option.rec (motive:=fun _=>Option Cr) (pg.ext f vs H)
  (fun fn=>Bool.rec (motive:=fun _=>Option Cr) none (Bool.rec (motive:=fun _=>Option Cr) none (qDI vs 0 fun e=>qo (z5 H) fun hl=>qDX pg ih m H fn ((qBT fn).run ih m e H hl)) (qM8 fn.np (z5 vs))) (isNone fn.rcv)) (pg.fn f)) n
theorem qHJ {pg:Pg} {call:Call} (hc:yT call (qf pg)) (n:Nat):qrD (exJ call n) (exL pg):=fun c st x h=>qou (jP hc c qgH n st.env st.H st.lo x h)
theorem qrC (pg:Pg):∀n,yT (qaO pg n) (qf pg)
 | 0=>fun i vs H r h=>by cases h
 | n+1=>fun i vs H r h=>by
  have h:Option.rec (motive:=fun _=>Option Cr) (pg.ext i vs H)
   (fun fn=>Bool.rec (motive:=fun _=>Option Cr) none (Bool.rec (motive:=fun _=>Option Cr) none (qDI vs 0 fun e=>qo (z5 H) fun hl=>qDX pg (qaO pg n) n H fn ((qBT fn).run (qaO pg n) n e H hl)) (qM8 fn.np (z5 vs))) (isNone fn.rcv)) (pg.fn i)=some r:=h
  rw [qod]
  unfold qq
  cases hf:pg.fn i with
  | none=>rw [hf] at h;exact h
  | some fn=>
   rw [hf] at h
   have h:Bool.rec (motive:=fun _=>Option Cr) none (Bool.rec (motive:=fun _=>Option Cr) none (qDI vs 0 fun e=>qo (z5 H) fun hl=>qDX pg (qaO pg n) n H fn ((qBT fn).run (qaO pg n) n e H hl)) (qM8 fn.np (z5 vs))) (isNone fn.rcv)=some r:=h
   rw [qD9,kr,kh,kh] at h
   cases hb1:isNone fn.rcv with
   | false=>rw [hb1] at h;cases h
   | true=>
    rw [hb1] at h
    cases hb:qM8 fn.np vs.length with
    | false=>rw [hb] at h;cases h
    | true=>
     rw [hb] at h
     have h:qDX pg (qaO pg n) n H fn ((qBT fn).run (qaO pg n) n (ku 0 vs) H H.length)=some r:=h
     have hcond:fn.np=vs.length∧fn.rcv=none:=⟨qM5 hb,qyB hb1⟩
     simp only [if_pos hcond]
     cases hq:(qBT fn).run (qaO pg n) n (ku 0 vs) H H.length with
     | none=>rw [hq] at h;cases h
     | some y=>
      have hy:=qou (jP (qrC pg n) fn.body qgH n _ _ _ _ hq)
      rw [hq] at h
      rw [hy]
      obtain ⟨ex,st⟩:=y
      cases ex with
      | nrm=>
       have h:Option.rec (motive:=fun _=>Option Cr) (qAP fn H st) (fun q=>deferred pg (exJ (qaO pg n) n) fn H q.1 q.2 st) fn.dfr=some r:=h
       show (match fn.dfr with
        | none=>z8 fn H st
        | some (t,rest)=>deferred pg (exL pg) fn H t rest st)=some r
       cases hd:fn.dfr with
       | none=>rw [hd,qyg] at h;exact h
       | some q=>
        obtain ⟨t,rest⟩:=q
        rw [hd] at h
        exact qlh (qHJ (qrC pg n) n) h
      | exit id=>cases h
      | ret=>
       have h:qAP fn H st=some r:=h
       rw [qyg] at h;exact h
      | pan v=>exact h
theorem qr8 {pg:Pg} {n f:Nat} {vs:List V} {H:List Obj} {r:Cr} (h:qaO pg n f vs H=some r):qf pg f vs H=some r:=qrC pg n _ _ _ _ h
end W
/-
  What the kernel works out of a call on closed data, as a fact about the call.
-/
set_option linter.unusedSimpArgs false
set_option linter.unusedVariables false
namespace W
open Go (IntKind BinOp UnOp)
def qkv:List V→List D→Bool
 | [],[]=>true
 | .d x::l,y::r=>eqD x y && qkv l r
 | _,_=>false
theorem qty:∀{l:List V} {r:List D},qkv l r=true→l=r.map .d
 | [],[],_=>rfl
 | v::l,y::r,h=>by
  cases v with
  | d x=>
   simp only [qkv,qM4] at h
   rw [qtH h.1,qty h.2];rfl
  | _=>cases h
 | [],_::_,h=>by simp [qkv] at h
 | v::_,[],h=>by cases v<;>simp [qkv] at h
def isD (r:Option Cr) (x:D):Bool:=match r with
 | some ⟨false,true,.d y,_,_⟩=>eqD y x
 | _=>false
def qAV (r:Option Cr) (x:List D):Bool:=match r with
 | some ⟨false,true,.tup y,_,_⟩=>qkv y x
 | _=>false
theorem qsD {pg:Pg} (hx:qy pg.ext) {f:Nat} {vs:List V} {H H':List Obj} {v:V} {lo:Nat} (h:qf pg f vs H=some ⟨false,true,v,H',lo⟩):qf pg f vs H=some ⟨false,true,v,H,lo⟩:=by
 obtain ⟨n,hn⟩:=jd.1 h
 have hlo:=(yj hx (qan hx n) _ _ _ _ hn).2.2 rfl
 simp only at hlo
 rw [hlo] at h
 exact h
theorem qBK {pg:Pg} (hx:qy pg.ext) {N f:Nat} {vs:List V} {H:List Obj} {x:D} (h:isD (qaO pg N f vs H) x=true):∃lo,qf pg f vs H=some ⟨false,true,.d x,H,lo⟩:=by
 unfold isD at h
 split at h
 ·rename_i y H' lo hr
  rw [qtH h] at hr
  exact ⟨lo,qsD hx (qr8 hr)⟩
 ·cases h
theorem qwH {pg:Pg} (hx:qy pg.ext) {N f:Nat} {vs:List V} {H:List Obj} {x:List D} (h:qAV (qaO pg N f vs H) x=true):∃lo,qf pg f vs H=some ⟨false,true,.tup (x.map .d),H,lo⟩:=by
 unfold qAV at h
 split at h
 ·rename_i y H' lo hr
  rw [qty h] at hr
  exact ⟨lo,qsD hx (qr8 hr)⟩
 ·cases h
end W
/- A call of no arguments whose result is data is the same beside whatever objects there are. -/
set_option linter.unusedSimpArgs false
set_option linter.unusedVariables false
namespace W
open Go (World Value Addr IntKind Program TypeId FuncId)
end W
/- Calls whose arguments and results are data, known beforehand (by the kernel), stand in for the functions' code. -/
set_option linter.unusedSimpArgs false
set_option linter.unusedVariables false
namespace W
open Go (World Value Addr IntKind Program TypeId FuncId)
inductive Out where
 | one (x:D)
 | tup (l:List D)
def Out.v:Out→V
 | .one x=>.d x
 | .tup l=>.tup (l.map .d)
structure Ent where
 f:Nat
 a:List D
 r:Out
def pick (i:Nat) (vs:List V):List Ent→Option Ent
 | []=>none
 | e::T=>bif qM8 e.f i && qkv vs e.a then some e else pick i vs T
def qrM (T:List Ent) (i:Nat) (vs:List V) (H:List Obj):Option Cr:=match pick i vs T with
 | some e=>some ⟨false,true,e.r.v,H,H.length⟩
 | none=>none
def Ent.is (r:Option Cr):Out→Bool
 | .one x=>isD r x
 | .tup l=>qAV r l
def Ent.Ok (pg:Pg) (e:Ent):Prop:=∃lo,qf pg e.f (e.a.map .d) []=some ⟨false,true,e.r.v,[],lo⟩
theorem qa9 {pg:Pg} (hx:qy pg.ext) {N f:Nat} {l:List D} {r:Out} (h:Ent.is (qaO pg N f (l.map .d) []) r=true):Ent.Ok pg ⟨f,l,r⟩:=by
 cases r with
 | one x=>exact qBK hx h
 | tup l=>exact qwH hx h
theorem qr2 {i:Nat} {vs:List V} {e:Ent}:∀{T:List Ent},pick i vs T=some e→e ∈ T∧e.f=i∧vs=e.a.map .d
 | [],h=>by cases h
 | q::T,h=>by
  unfold pick at h
  rw [qM3] at h
  split at h
  ·rename_i hb
   cases h
   simp only [qM4] at hb
   exact ⟨.head _,qM5 hb.1,qty hb.2⟩
  ·obtain ⟨h1,h2⟩:=qr2 h
   exact ⟨.tail _ h1,h2⟩
theorem qxQ {T:List Ent}:qy (qrM T):=fun i vs H r h=>by
 unfold qrM at h
 split at h
 ·cases h
  exact ⟨qM7 _,fun _ _ _=>rfl,fun _=>rfl⟩
 ·cases h
theorem qFq {M:Maps} {g g':Gh} {w w':World} (e:g'.pub=g.pub) (ew:w'=w):∀{l:List D} {vs:List Value},RepSL M g w (l.map .d) vs→RepSL M g' w' (l.map .d) vs
 | [],_,h=>by cases h;exact .nil
 | x::l,_,h=>by
  rw [List.map_cons] at h ⊢
  cases h with
  | cons _ _ _ _ h0 h=>
   refine .cons _ _ _ _ ?_ (qFq e ew h)
   cases h0 with
   | d _ _ hr=>exact .d _ _ (by rw [e,ew];exact hr)
theorem qEU {P:Program} {M:Maps} {pg:Pg} (hsim:∀n,qw P M (kR pg n)) {e:Ent} (h:e.Ok pg)
  {f':FuncId} (hl:look M.fm f'=some e.f) {g:Gh} {w:World} {H:List Obj} (hH:RelH M g w H) {argv:List Value} (ha:ArgsRep M g w 0 (e.a.map .d) argv):qte P f' argv.toArray w (qH M g w ⟨false,true,e.r.v,H,H.length⟩):=by
 obtain ⟨lo,h⟩:=h
 obtain ⟨n,hn⟩:=jd.1 h
 refine qrB (hsim n) hn rfl (fun {g1 g2 w' c} ep hA=>?_) hl hH ha
 revert hA
 cases e.r with
 | one x=>
  intro hA
  cases hA with
  | s hA=>cases hA with
   | d _ _ hr=>exact .s (.d _ _ (by rw [ep];exact hr))
 | tup l=>
  intro hA
  cases hA with
  | s hA=>cases hA with
   | tup _ _ hr=>exact .s (.tup _ _ (qFq ep rfl hr))
theorem qvH {P:Program} {M:Maps} {T:List Ent} (hT:∀e ∈ T,∃pg,(∀n,qw P M (kR pg n))∧e.Ok pg):qw P M (qrM T):=by
 intro i vs H r h f' hl g w argv ha hH
 unfold qrM at h
 split at h
 ·rename_i e he
  cases h
  obtain ⟨h1,rfl,rfl⟩:=qr2 he
  obtain ⟨pg,hsim,hok⟩:=hT e h1
  exact qEU hsim hok hl hH ha
 ·cases h
end W
namespace W
set_option maxRecDepth 100000
def ixN (c:Nat):List Nat→Int
 | []=>-1
 | x::l=>bif qM8 x c then 0 else match ixN c l with
  | .ofNat n=>.ofNat (n+1)
  | v=>v
def ixX (vs:List V) (H:List Obj):Option Cr:=
 match vs with
 | [.d (.s t),.d (.i .u8 (.ofNat c))]=>some ⟨false,true,.d (.i .i64 (ixN (c % 256) t)),H,H.length⟩
 | _=>none
def pg:Pg:=⟨fun n=>bif qM8 n 296 then none else prog n,fun i vs H=>bif qM8 i 296 then ixX vs H else none⟩
theorem qJp:qy fun _ vs H=>ixX vs H:=fun i vs H r h=>by
 simp only [ixX] at h
 split at h
 ·cases h
  exact ⟨qM7 _,fun _ _ _=>rfl,fun _=>rfl⟩
 ·cases h
theorem qwD:qy pg.ext:=fun i vs H r h=>by
 simp only [pg,qM3] at h
 split at h
 ·exact qJp i vs H r h
 ·cases h
end W
/-
  More equations: nil slices, shifts, bits, bytes.
-/
set_option linter.unusedSimpArgs false
set_option linter.unusedVariables false
namespace W
open Go (IntKind BinOp UnOp)
theorem qAG {n:Nat}:isC (.t n)=false:=(rfl)
theorem quL {x:D}:isC (.c x)=true:=(rfl)
theorem qxJ {c:Bool} {k k':IntKind} {m n:Int} (h:(0≤n)=True):yu .shr .num c (.d (.i k m)) (.d (.i k' n))=some (.d (.i k (m.fdiv (2 ^ (min n.toNat k.bits))))):=by
 have h:0≤n:=by rw [h];trivial
 simp [yu,qcv,qlB,qp1,h]
def qlW (k:IntKind) (a b:Int):Int:=k.wrap ((BitVec.ofInt k.bits a) &&& (BitVec.ofInt k.bits b)).toNat
theorem qCT {c:Bool} {k:IntKind} {m n:Int}:yu .and .num c (.d (.i k m)) (.d (.i k n))=some (.d (.i k (qlW k m n))):=by rw [qn5 rfl];rfl
def qpf (s:Nat) (v:V):V:=match v with | .lp t o=>bif qM8 t s then .undef else .lp t o|v=>v
theorem qqS {s:Nat}:qbl s []=[]:=(rfl)
theorem qpw {s n:Nat} {v:V} {e:Env}:qbl s ((n,v)::e)=(n,qpf s v)::qbl s e:=(rfl)
theorem qs9 {s:Nat} {x:D}:qpf s (.d x)=.d x:=(rfl)
theorem qyH {s:Nat} {x:List D}:qpf s (.osl x)=.osl x:=(rfl)
theorem qzp {s i o:Nat}:qpf s (.ptr i o)=.ptr i o:=(rfl)
theorem qzO {s:Nat} {x:List V}:qpf s (.box x)=.box x:=(rfl)
theorem qB3 {s:Nat} {x:D}:qpf s (.cp x)=.cp x:=(rfl)
theorem qzc {s:Nat} {x:List V}:qpf s (.tup x)=.tup x:=(rfl)
theorem qkA {s:Nat}:qpf s .undef=.undef:=(rfl)
theorem qnG {cs vs:List V} (h:(vs.length=cs.length)=True):kD cs 0 vs=some vs:=by
 have h:vs.length=cs.length:=by rw [h];trivial
 simp [kD,h]
def qHA (l:L) (st:St):V→Option V
 | .box cs=>V.part 0 l cs
 | .ptr id off=>qC l st (.ptr id off)
 | _=>none
theorem qof {own:Bool} {st:St} {n:Nat} {l:L}:yF own st (.cell n l)=qHA l st (get n st.env):=by
 simp only [yF,qHA]
 cases get n st.env<;>rfl
theorem quM {l:L} {st:St} {cs:List V}:qHA l st (.box cs)=qwQ l 0 (.box cs):=(rfl)
theorem qss {i o:Nat}:qjG (.ptr i o)=.ptr i o:=(rfl)
def e8 (n:Nat):D:=.i .u8 (n:Int)
end W
/- Walking on: interfaces, panics, function values, deferred closures. -/
set_option linter.unusedSimpArgs false
set_option linter.unusedVariables false
namespace W
open Go (IntKind BinOp UnOp)
variable {pg:Pg} {st:St} {call:Call}
end W
/-
  Walking of rows that may be written.
-/
set_option linter.unusedSimpArgs false
set_option linter.unusedVariables false
namespace W
open Go (IntKind BinOp UnOp)
section
variable {call:Call} {st:St}
end
end W
/- Small functions of the scanners and parsers whose results are told at once. -/
set_option linter.unusedSimpArgs false
set_option linter.unusedVariables false
namespace W
open Go (IntKind BinOp UnOp)
set_option maxRecDepth 20000
set_option linter.defProp false in
def qnr:=(And.intro (And.intro (And.intro (And.intro (And.intro @qoy @qsP) (And.intro @qm9 (And.intro @qpN @qrw))) (And.intro (And.intro @qpM @qAG) (And.intro @qpS (And.intro @qiN @qn7)))) (And.intro (And.intro (And.intro @qtV @qmK) (And.intro @qre (And.intro @qtU @qxt))) (And.intro (And.intro @qom (And.intro @qIh @qmI)) (And.intro @qtw (And.intro @qoc @qiY))))) (And.intro (And.intro (And.intro (And.intro @qoM @qkN) (And.intro @qsN (And.intro @qsW @qxE))) (And.intro (And.intro @qhB (And.intro @qA9 @qsY)) (And.intro @qs4 (And.intro @qIy @qlQ)))) (And.intro (And.intro (And.intro @qo3 @qsS) (And.intro @qqa (And.intro @qqV @qq1))) (And.intro (And.intro @qmE (And.intro @qx1 @quL)) (And.intro @qto (And.intro @qqx @qw0))))))
noncomputable def qwT (H:List Obj) (b:Bool):Option Cr:=Bool.rec (motive:=fun _=>Option Cr) (some ⟨false,true,.d (.b false),H,H.length⟩) (some ⟨false,true,.d (.b true),H,H.length⟩) b
theorem qnN {H:List Obj} {b:Bool} {r:Cr} (h:qwT H b=some r):r=⟨false,true,.d (.b b),H,H.length⟩:=by cases b<;>exact (Option.some.inj h).symm
theorem qEH {l:List Nat} {n:Nat} (h:n≤l.length):qdE (.d (.s l)) none (some (n:Int))=some (.d (.s (l.take n))):=by
 rw [qvi (by simp) (by simp) (by simp;omega)]
 simp
theorem qEI {l:List Nat} {n:Nat} (h:n≤l.length):qdE (.d (.s l)) (some (n:Int)) none=some (.d (.s (l.drop n))):=by
 rw [qvi (by simp) (by simp;omega) (by simp)]
 simp
theorem qxo {a b:List Nat}:qo1 a b=decide (a=b):=by rw [qpT,qx5]
theorem qkI {a b:Nat}:qM8 a b=decide (a=b):=by rw [Bool.eq_iff_iff,Nat.beq_eq];simp
noncomputable def byF (vs:List V):Option Nat:=
 match vs with
 | [v]=>(match vI v with
  | .yes k (.ofNat n)=>bif qM8 (kcode k) 4 then some n else none
  | _=>none)
 | _=>none
theorem qz5 {vs:List V} {n:Nat} (h:byF vs=some n):vs=[.d (.i .u8 (n:Int))]:=by
 unfold byF at h
 split at h
 ·rename_i v
  split at h
  ·rename_i k m hv
   rw [qM3] at h
   split at h
   ·rename_i hk
    cases h
    rw [qfv hv]
    cases k<;>first|rfl|cases hk
   ·cases h
  ·cases h
 ·cases h
noncomputable def inR (a b c:Nat):Bool:=Bool.rec (motive:=fun _=>Bool) false (Nat.ble c b) (Nat.ble a c)
theorem qrc {a b c:Nat}:inR a b c=(decide (a≤c) && decide (c≤b)):=by
 have h1:∀x y:Nat,Nat.ble x y=decide (x≤y):=fun x y=>by rw [Bool.eq_iff_iff,Nat.ble_eq];simp
 unfold inR
 rw [h1,h1]
 by_cases h:a≤c<;>simp [h]
noncomputable def orF (a b:Bool):Bool:=Bool.rec (motive:=fun _=>Bool) b true a
theorem qmC {a b:Bool}:orF a b=(a || b):=by cases a<;>rfl
noncomputable def cLt (c:Nat):Bool:=orF (inR 97 122 c) (inR 65 90 c)
noncomputable def cDg (c:Nat):Bool:=inR 48 57 c
noncomputable def cBl (c:Nat):Bool:=orF (orF (qM8 c 9) (qM8 c 10)) (orF (qM8 c 13) (qM8 c 32))
noncomputable def byX (f:Nat→Bool) (vs:List V) (H:List Obj):Option Cr:=Option.rec (motive:=fun _=>Option Cr) none (fun c=>qwT H (f c)) (byF vs)
theorem qlt {f:Nat→Bool} {vs:List V} {H:List Obj} {r:Cr} (h:byX f vs H=some r):∃c:Nat,vs=[.d (.i .u8 (c:Int))]∧r=⟨false,true,.d (.b (f c)),H,H.length⟩:=by
 unfold byX at h
 cases hb:byF vs with
 | none=>rw [hb] at h;cases h
 | some c=>rw [hb] at h;exact ⟨c,qz5 hb,qnN h⟩
theorem qpn {c:Nat} {H:List Obj}:qf pg 104 [.d (.i .u8 c)] H=some ⟨false,true,.d (.b (cLt c)),H,H.length⟩:=by
 rw [qR (fn:=qai) rfl rfl,cLt,qmC,qrc,qrc]
 have e1:((97:Int)≤(c:Int))=(97≤c):=by rw [eq_iff_iff];omega
 have e2:((c:Int)≤122)=(c≤122):=by rw [eq_iff_iff];omega
 have e3:((65:Int)≤(c:Int))=(65≤c):=by rw [eq_iff_iff];omega
 have e4:((c:Int)≤90)=(c≤90):=by rw [eq_iff_iff];omega
 by_cases h1:97≤c<;>by_cases h2:c≤122<;>by_cases h3:65≤c<;>by_cases h4:c≤90
 all_goals simp only [qnr,qai,qNe,reduceCtorEq,Bool.or_true,e1,h1,decide_true,↓reduceIte,Nat.reduceEqDiff,qs8,e2,h2,qNd,qNa,qth,qQ,qNf,h3,h4,Bool.or_self,decide_false,Bool.and_false,Bool.or_false,Bool.and_true,Bool.not_false,e3,e4]
 all_goals rfl
theorem qsZ {c:Nat} {H:List Obj}:qf pg 76 [.d (.i .u8 c)] H=some ⟨false,true,.d (.b (cLt c)),H,H.length⟩:=by
 rw [qR (fn:=zh) rfl rfl,cLt,qmC,qrc,qrc]
 have e1:((97:Int)≤(c:Int))=(97≤c):=by rw [eq_iff_iff];omega
 have e2:((c:Int)≤122)=(c≤122):=by rw [eq_iff_iff];omega
 have e3:((65:Int)≤(c:Int))=(65≤c):=by rw [eq_iff_iff];omega
 have e4:((c:Int)≤90)=(c≤90):=by rw [eq_iff_iff];omega
 by_cases h1:97≤c<;>by_cases h2:c≤122<;>by_cases h3:65≤c<;>by_cases h4:c≤90
 all_goals simp only [qnr,zh,qNe,reduceCtorEq,Bool.or_true,e1,h1,decide_true,↓reduceIte,Nat.reduceEqDiff,qs8,e2,h2,qNd,qNa,qth,qQ,qNf,h3,h4,Bool.or_self,decide_false,Bool.and_false,Bool.or_false,Bool.and_true,Bool.not_false,e3,e4]
 all_goals rfl
theorem qqk {c:Nat} {H:List Obj}:qf pg 106 [.d (.i .u8 c)] H=some ⟨false,true,.d (.b (cDg c)),H,H.length⟩:=by
 rw [qR (fn:=qbe) rfl rfl,cDg,qrc]
 have e1:((48:Int)≤(c:Int))=(48≤c):=by rw [eq_iff_iff];omega
 have e2:((c:Int)≤57)=(c≤57):=by rw [eq_iff_iff];omega
 by_cases h1:48≤c<;>by_cases h2:c≤57
 all_goals simp only [qnr,qbe,qNe,reduceCtorEq,Bool.or_true,e1,h1,decide_true,↓reduceIte,Nat.reduceEqDiff,qs8,e2,h2,qQ,qNf,decide_false,Bool.and_false,qNa,Bool.and_true]
 all_goals rfl
noncomputable def cNm (c:Nat):Bool:=orF (cLt c) (cDg c)
theorem qwc {c:Nat} {H:List Obj}:qf pg 172 [.d (.i .u8 c)] H=some ⟨false,true,.d (.b (cNm c)),H,H.length⟩:=by
 rw [qR (fn:=qbd) rfl rfl,cNm,qmC]
 have hl:=qpn (c:=c) (H:=H)
 have hd:=qqk (c:=c) (H:=H)
 cases hq:cDg c<;>rw [hq] at hd<;>cases hr:cLt c<;>rw [hr] at hl
 all_goals simp only [qnr,qbd,qNe,reduceCtorEq,qaC,List.map_cons,List.map_nil,zS,jF,qNf,qjf,hl,qat,zT,jt,Nat.min_self,qq9,qjz,qgo,Bool.not_false,↓reduceIte,Nat.reduceEqDiff,hd,qNa,qQ,Bool.or_self,qNd,Bool.or_false,Bool.or_true]
 all_goals rfl
theorem qv7 {c:Nat} {H:List Obj}:qf pg 75 [.d (.i .u8 c)] H=some ⟨false,true,.d (.b (cBl c)),H,H.length⟩:=by
 rw [qR (fn:=zE) rfl rfl,cBl,qmC,qmC,qmC,qkI,qkI,qkI,qkI]
 have e1:((c:Int)=9)=(c=9):=by rw [eq_iff_iff];omega
 have e2:((c:Int)=10)=(c=10):=by rw [eq_iff_iff];omega
 have e3:((c:Int)=13)=(c=13):=by rw [eq_iff_iff];omega
 have e4:((c:Int)=32)=(c=32):=by rw [eq_iff_iff];omega
 by_cases h1:c=9<;>by_cases h2:c=10<;>by_cases h3:c=13<;>by_cases h4:c=32
 all_goals simp only [qnr,zE,h1,Int.cast_ofNat_Int,qNe,reduceCtorEq,Bool.or_true,qpQ,decide_true,qNd,qNa,↓reduceIte,Nat.reduceEqDiff,qQ,decide_false,Bool.or_false,Bool.or_self,h2,Int.reduceEq,Bool.not_false,h3,h4,e1,e2,e3,e4]
 all_goals rfl
noncomputable def qy5 (t:List Nat):List Nat→Bool:=List.rec (motive:=fun _=>List Nat→Bool) (fun _=>true) (fun x _ ih l=>List.rec (motive:=fun _=>Bool) false (fun y r _=>Bool.rec (motive:=fun _=>Bool) false (ih r) (qM8 x y)) l) t
theorem qxF:∀t l:List Nat,qy5 t l=decide (l.take t.length=t)
 | [],l=>by show true=_;simp
 | x::t,[]=>by show false=_;simp
 | x::t,y::l=>by
  show Bool.rec (motive:=fun _=>Bool) false (qy5 t l) (qM8 x y)=_
  rw [qxF t l]
  rw [qkI]
  by_cases h:x=y
  ·simp [h]
  ·simp [h,Ne.symm h]
theorem qB9 {l t:List Nat} {H:List Obj}:qf pg 240 [.d (.s l),.d (.s t)] H=some ⟨false,true,.d (.b (qy5 t l)),H,H.length⟩:=by
 rw [qR (fn:=qp) rfl rfl,qxF]
 by_cases h:t.length≤l.length
 ·have h1:((t.length:Int)≤(l.length:Int))=True:=by rw [eq_iff_iff];simp;omega
  have h2:=qEH h
  simp only [qnr,qp,qNe,Nat.reduceAdd,reduceCtorEq,qqE,qCp,Nat.reduceEqDiff,Bool.or_self,h1,decide_true,↓reduceIte,qeo,qha,qg5,qtW,qlF,h2,qus,qQ]
  all_goals rfl
 ·have h1:((t.length:Int)≤(l.length:Int))=False:=by rw [eq_iff_iff];simp;omega
  have h2:decide (l.take t.length=t)=false:=by
   simp only [decide_eq_false_iff_not]
   intro e
   have:=congrArg List.length e
   simp at this
   omega
  simp only [qnr,qp,qNe,Nat.reduceAdd,reduceCtorEq,qqE,qCp,Nat.reduceEqDiff,Bool.or_self,h1,decide_false,qNa,↓reduceIte,qQ,h2]
  all_goals rfl
theorem qCR {l t:List Nat} {H:List Obj}:qf pg 176 [.d (.s l),.d (.s t)] H=some ⟨false,true,.d (.b (qy5 t l)),H,H.length⟩:=by
 rw [qR (fn:=zm) rfl rfl]
 simp only [qnr,zm,qNe,Nat.reduceAdd,qq9,reduceCtorEq,qjz,qgo,Nat.reduceEqDiff,qaC,List.map_cons,List.map_nil,zS,jF,qNf,qjf,qB9,qat,zT,jt,Nat.min_self,qQ]
 all_goals rfl
noncomputable def atF (v:V) (H:List Obj):Option (List V):=OP.rec (motive:=fun _=>Option (List V)) none (fun id off=>Bool.rec (motive:=fun _=>Option (List V)) none (qoB (fnth H id)) (qM8 off 0)) (fun _ _=>none) (fun _=>none) (vP v)
theorem quK {v:V} {H:List Obj} {cs:List V} (h:atF v H=some cs):∃id,v=.ptr id 0∧H[id]?=some (.cells cs):=by
 unfold atF at h
 cases hv:vP v with
 | p id off=>
  rw [hv] at h
  have h:Bool.rec (motive:=fun _=>Option (List V)) none (qoB (fnth H id)) (qM8 off 0)=some cs:=h
  cases hb:qM8 off 0 with
  | false=>rw [hb] at h;cases h
  | true=>
   rw [hb] at h
   have e:=qM5 hb
   subst e
   refine ⟨id,qLk hv,?_⟩
   rw [←zH]
   exact qpo h
 | _=>rw [hv] at h;cases h
noncomputable def qI6 (vs:List V) (H:List Obj):Option Cr:=
 match vs with
 | [v,w]=>(match atF v H with
  | some (s::i::_)=>(match vT s,vI i,vT w with
   | .s s,.yes .i64 (.ofNat n),.s t=>Bool.rec (motive:=fun _=>Option Cr) none (fDc s n fun r=>qwT H (qy5 t r)) (Nat.ble n (z5 s))
   | _,_,_=>none)
  | _=>none)
 | _=>none
theorem qDG {vs:List V} {H:List Obj} {r:Cr} (h:qI6 vs H=some r):qf pg 108 vs H=some r:=by
 unfold qI6 at h
 split at h
 ·rename_i v w
  split at h
  ·rename_i s i l ha
   obtain ⟨id,rfl,hH⟩:=quK ha
   split at h
   ·rename_i s' n t hs hi hw
    rw [qoK hs,qfv hi] at hH
    rw [qoK hw]
    rw [kh] at h
    cases hd:Nat.ble n s'.length with
    | false=>rw [hd] at h;cases h
    | true=>
     rw [hd] at h
     have hn:=Nat.le_of_ble_eq_true hd
     replace h:(fDc s' n fun r=>qwT H (qy5 t r))=some r:=h
     rw [qwv] at h
     rw [qnN h]
     have h2:=qEI hn
     rw [qR (fn:=zC) rfl rfl]
     simp only [qnr,zC,qNe,Nat.reduceAdd,qra,qo5,reduceCtorEq,qoQ,qoA,qp5,qov,qf6,qjH,qsO,Nat.add_zero,qmJ,qoD,hH,Int.ofNat_eq_natCast,qtN,List.getElem?_cons_zero,qNc,qtC,qw5,List.getElem?_cons_succ,qeo,Nat.reduceEqDiff,qg5,qtW,qha,qlF,h2,qq9,qjz,qgo,qaC,List.map_cons,List.map_nil,zS,jF,qNf,qjf,qCR,qat,zT,jt,Nat.min_self,qk1,qkX,qQ]
     all_goals rfl
   ·cases h
  ·cases h
 ·cases h
end W
/- Small functions, continued: the symbol that is read; a text in a list, a byte in a text. -/
set_option linter.unusedSimpArgs false
set_option linter.unusedVariables false
namespace W
open Go (IntKind BinOp UnOp)
set_option maxRecDepth 20000
set_option linter.defProp false in
def qlr:=(And.intro (And.intro (And.intro (And.intro (And.intro @qqV (And.intro @qxt @qst)) (And.intro @qqx (And.intro @qtw @qtV))) (And.intro (And.intro @qo3 (And.intro @qr3 @qmJ)) (And.intro (And.intro @qsC @qnG) (And.intro @qpr @qxS)))) (And.intro (And.intro (And.intro @qFA (And.intro @qjF @qn7)) (And.intro (And.intro @qmE @qiN) (And.intro @qsS @qkN))) (And.intro (And.intro @qvr (And.intro @qqS @qrw)) (And.intro (And.intro @qzp @qs4) (And.intro @qq1 @qpb))))) (And.intro (And.intro (And.intro (And.intro @qsn (And.intro @qx1 @qqr)) (And.intro (And.intro @qt3 @qsP) (And.intro @qoM @qtC))) (And.intro (And.intro @qnJ (And.intro @qBI @qre)) (And.intro (And.intro @qto @qIy) (And.intro @qhB @qsN)))) (And.intro (And.intro (And.intro @qpw (And.intro @qLG @qmI)) (And.intro (And.intro @qmK @qjH) (And.intro @qA9 @qus))) (And.intro (And.intro @qIh (And.intro @qoy @qsY)) (And.intro (And.intro @qw0 @qAG) (And.intro @qom @qDf))))))
noncomputable def qz9 (v:V) (H:List Obj):Option (List D):=
 match atF v H with
 | some (l::i::_)=>(match vL l,vI i with
  | .sl xs,.yes .i64 (.ofNat n)=>(match fnth xs n with
   | some y=>(match isAgg y with
    | some [a,b,c,d,e]=>(match vI (.d a),vI (.d b),vI (.d c),vT (.d d),vI (.d e) with
     | .yes k1 n1,.yes k2 n2,.yes k3 n3,.s t,.yes k5 n5=>some [.i k1 n1,.i k2 n2,.i k3 n3,.s t,.i k5 n5]
     | _,_,_,_,_=>none)
    | _=>none)
   | none=>none)
  | _,_=>none)
 | _=>none
theorem qoP {v:V} {H:List Obj} {cs:List D} (h:qz9 v H=some cs):∃id xs l,∃n:Nat,v=.ptr id 0∧H[id]?=some (.cells (.d (.sl xs)::.d (.i .i64 (n:Int))::l))∧iaV (.d (.sl xs)) (.d (.i .i64 (n:Int))) 5 none=some (.cp (.agg cs))∧∃k1 n1 k2 n2 k3 n3 t k5 n5,cs=[.i k1 n1,.i k2 n2,.i k3 n3,.s t,.i k5 n5]:=by
 unfold qz9 at h
 split at h
 ·rename_i l i q ha
  obtain ⟨id,rfl,hH⟩:=quK ha
  split at h
  ·rename_i xs n hl hi
   rw [qBa hl,qfv hi] at hH
   split at h
   ·rename_i y hy
    split at h
    ·rename_i a b c d e hg
     split at h
     ·rename_i k1 n1 k2 n2 k3 n3 t k5 n5 h1 h2 h3 h4 h5
      cases h
      cases qfv h1;cases qfv h2;cases qfv h3;cases qoK h4;cases qfv h5
      rw [zH] at hy
      cases y with
      | agg u=>
       have hg:some u=some _:=hg
       cases hg
       exact ⟨id,xs,q,n,rfl,hH,jR (by omega) (by simpa using hy) (by simp [D.cells]),k1,n1,k2,n2,k3,n3,t,k5,n5,rfl⟩
      | _=>cases hg
     ·cases h
    ·cases h
   ·cases h
  ·cases h
 ·cases h
noncomputable def qua (vs:List V) (H:List Obj):Option Cr:=
 match vs with
 | [v]=>(match qz9 v H with
  | some cs=>some ⟨false,true,.d (.agg cs),H,H.length⟩
  | none=>none)
 | _=>none
theorem qrX {vs:List V} {H:List Obj} {r:Cr} (h:qua vs H=some r):∃id xs l,∃n:Nat,vs=[.ptr id 0]∧H[id]?=some (.cells (.d (.sl xs)::.d (.i .i64 (n:Int))::l))∧∃k1 n1 k2 n2 k3 n3 t k5 n5,iaV (.d (.sl xs)) (.d (.i .i64 (n:Int))) 5 none=some (.cp (.agg [.i k1 n1,.i k2 n2,.i k3 n3,.s t,.i k5 n5]))∧r=⟨false,true,.d (.agg [.i k1 n1,.i k2 n2,.i k3 n3,.s t,.i k5 n5]),H,H.length⟩:=by
 unfold qua at h
 split at h
 ·split at h
  ·rename_i v cs hc
   cases h
   obtain ⟨id,xs,l,n,rfl,hH,hi,k1,n1,k2,n2,k3,n3,t,k5,n5,rfl⟩:=qoP hc
   exact ⟨id,xs,l,n,rfl,hH,k1,n1,k2,n2,k3,n3,t,k5,n5,hi,rfl⟩
  ·cases h
 ·cases h
theorem qA0 {vs:List V} {H:List Obj} {r:Cr} (h:qua vs H=some r):qf pg 51 vs H=some r:=by
 obtain ⟨id,xs,l,n,rfl,hH,k1,n1,k2,n2,k3,n3,t,k5,n5,hi,rfl⟩:=qrX h
 rw [qR (fn:=zz) rfl rfl]
 simp only [qlr,zz,qNe,List.map_cons,List.map_nil,qra,qo5,reduceCtorEq,qoQ,qoA,qp5,qov,qf6,qsO,Nat.add_zero,qoD,hH,qtN,List.getElem?_cons_zero,qNc,qw5,List.getElem?_cons_succ,Nat.reduceEqDiff,hi,qk1,qya,List.length_cons,List.length_nil,Nat.reduceAdd,qnM,qNf,qsG,qkX,qof,quM,Nat.reduceLeDiff,qxw,List.drop_zero,List.take_succ_cons,List.take_zero,qqg,qwd,qrb,qmN,qoR,qQ]
 all_goals rfl
theorem qBq {vs:List V} {H:List Obj} {r:Cr} (h:qua vs H=some r):qf pg 41 vs H=some r:=by
 obtain ⟨id,xs,l,n,rfl,hH,k1,n1,k2,n2,k3,n3,t,k5,n5,hi,rfl⟩:=qrX h
 rw [qR (fn:=ko) rfl rfl]
 simp only [qlr,ko,qNe,List.map_cons,List.map_nil,qra,qo5,reduceCtorEq,qoQ,qoA,qp5,qov,qf6,qsO,Nat.add_zero,qoD,hH,qtN,List.getElem?_cons_zero,qNc,qw5,List.getElem?_cons_succ,Nat.reduceEqDiff,hi,qk1,qya,List.length_cons,List.length_nil,Nat.reduceAdd,qnM,qNf,qsG,qkX,qof,quM,Nat.reduceLeDiff,qxw,List.drop_zero,List.take_succ_cons,List.take_zero,qqg,qwd,qrb,qmN,qoR,qQ]
 all_goals rfl
noncomputable def isX (vs:List V) (H:List Obj):Option Cr:=
 match vs with
 | [v,w]=>(match qz9 v H with
  | some [k,_,_,t,_]=>(match vI (.d k),vT (.d t),vT w with
   | .yes .i64 (.ofNat n),.s t,.s s=>qwT H (Bool.rec (motive:=fun _=>Bool) false (qo1 t s) (orF (qM8 n 5) (qM8 n 6)))
   | _,_,_=>none)
  | _=>none)
 | _=>none
theorem qKC {vs:List V} {H:List Obj} {r:Cr} (h:isX vs H=some r):qf pg 115 vs H=some r:=by
 unfold isX at h
 split at h
 ·rename_i v w
  split at h
  ·rename_i k p q t z ht
   split at h
   ·rename_i n t' s hk hs hw
    have hn:qf pg 51 [v] H=some ⟨false,true,.d (.agg [k,p,q,t,z]),H,H.length⟩:=qA0 (by simp only [qua,ht])
    have hk:=qfv hk;cases hk
    have hs:=qoK hs;cases hs
    rw [qoK hw]
    rw [qnN h,qmC,qkI,qkI,qxo]
    rw [qR (fn:=zO) rfl rfl]
    simp only [Int.ofNat_eq_natCast] at hn
    have e1:((n:Int)=5)=(n=5):=by rw [eq_iff_iff];omega
    have e2:((n:Int)=6)=(n=6):=by rw [eq_iff_iff];omega
    obtain ⟨id,xs,l,m,rfl,_,_,k1,n1,k2,n2,k3,n3,u,k5,n5,hc⟩:=qoP ht
    cases hc
    by_cases h1:n=5<;>by_cases h2:n=6<;>by_cases h3:t'=s
    all_goals simp only [qlr,zO,qNe,Nat.reduceAdd,qq9,reduceCtorEq,qss,qgo,qx8,qaC,List.map_cons,List.map_nil,zS,qqY,jF,qNf,qjf,hn,h1,Int.cast_ofNat_Int,h3,qat,zT,jt,Nat.min_self,qs9,qkA,Nat.reduceEqDiff,qjz,List.length_cons,List.length_nil,qq6,qCm,Nat.add_zero,qCe,quU,qp7,qBD,List.getElem?_cons_zero,qNc,quL,Bool.or_true,qpQ,decide_true,qoc,qqa,qNd,qpM,qNa,↓reduceIte,qpS,qiY,qlQ,qsW,qm9,List.getElem?_cons_succ,Bool.or_self,qpN,qQ,decide_false,Bool.or_false,h2,Int.reduceEq,Bool.not_false,e1,e2,qtU]
    all_goals rfl
   ·cases h
  ·cases h
 ·cases h
noncomputable def qz4 (vs:List V) (H:List Obj):Option Cr:=
 match vs with
 | [v,k',w]=>(match qz9 v H with
  | some [k,_,_,t,_]=>(match vI (.d k),vT (.d t),vT w,vI k' with
   | .yes .i64 (.ofNat n),.s t,.s s,.yes .i64 (.ofNat m)=>qwT H (Bool.rec (motive:=fun _=>Bool) false (qo1 t s) (qM8 n m))
   | _,_,_,_=>none)
  | _=>none)
 | _=>none
theorem qCL {vs:List V} {H:List Obj} {r:Cr} (h:qz4 vs H=some r):qf pg 38 vs H=some r:=by
 unfold qz4 at h
 split at h
 ·rename_i v k' w
  split at h
  ·rename_i k p q t z ht
   split at h
   ·rename_i n t' s m hk hs hw hm
    have hn:qf pg 41 [v] H=some ⟨false,true,.d (.agg [k,p,q,t,z]),H,H.length⟩:=qBq (by simp only [qua,ht])
    have hk:=qfv hk;cases hk
    have hs:=qoK hs;cases hs
    rw [qoK hw,qfv hm]
    rw [qnN h,qkI,qxo]
    rw [qR (fn:=kf) rfl rfl]
    simp only [Int.ofNat_eq_natCast] at hn ⊢
    have e1:((n:Int)=(m:Int))=(n=m):=by rw [eq_iff_iff];omega
    obtain ⟨id,xs,l,i,rfl,_,_,k1,n1,k2,n2,k3,n3,u,k5,n5,hc⟩:=qoP ht
    cases hc
    by_cases h1:n=m<;>by_cases h3:t'=s
    all_goals simp only [qlr,kf,qNe,Nat.reduceAdd,qq9,reduceCtorEq,qss,qgo,qx8,qaC,List.map_cons,List.map_nil,zS,qqY,jF,qNf,qjf,hn,h1,h3,qat,zT,jt,Nat.min_self,qs9,qkA,Nat.reduceEqDiff,qjz,List.length_cons,List.length_nil,qq6,qCm,Nat.add_zero,qCe,quU,qp7,qBD,List.getElem?_cons_zero,qNc,Bool.or_self,qpQ,decide_true,qoc,qm9,qpM,↓reduceIte,List.getElem?_cons_succ,qiY,qpN,qQ,decide_false,e1,qNa,qpS,qlQ,qtU]
    all_goals rfl
   ·cases h
  ·cases h
 ·cases h
noncomputable def elF (w:List Nat) (xs:List D):Option Bool:=List.rec (motive:=fun _=>Option Bool) (some false) (fun x _ ih=>OT.rec (motive:=fun _=>Option Bool) none (fun t=>Option.rec (motive:=fun _=>Option Bool) none (fun b=>some (Bool.rec (motive:=fun _=>Bool) b true (qo1 t w))) ih) (vT (.d x))) xs
theorem quq {w:List Nat}:∀{xs:List D} {b:Bool},elF w xs=some b→∃L:List (List Nat),xs=L.map D.s∧b=decide (w ∈ L)
 | [],b,h=>by have h:some false=some b:=h;cases h;exact ⟨[],rfl,by simp⟩
 | x::xs,b,h=>by
  replace h:OT.rec (motive:=fun _=>Option Bool) none (fun t=>Option.rec (motive:=fun _=>Option Bool) none (fun b=>some (Bool.rec (motive:=fun _=>Bool) b true (qo1 t w))) (elF w xs)) (vT (.d x))=some b:=h
  cases hv:vT (.d x) with
  | no=>rw [hv] at h;cases h
  | s t=>
   rw [hv] at h
   have e:=qoK hv;cases e
   cases hr:elF w xs with
   | none=>rw [hr] at h;cases h
   | some b'=>
    rw [hr] at h
    obtain ⟨L,rfl,rfl⟩:=quq hr
    refine ⟨t::L,rfl,?_⟩
    have h:some (Bool.rec (motive:=fun _=>Bool) (decide (w ∈ L)) true (qo1 t w))=some b:=h
    cases h
    rw [qxo]
    by_cases he:t=w
    ·simp [he]
    ·simp [he,Ne.symm he]
theorem zc {pg:Pg} {e:Env} {H:List Obj} {lo:Nat}:exL pg qt ⟨e,H,lo⟩=qJ pg (qgf (get 0 e)) (qgf (get 1 e)) (qgf (get 7 e)) (qgf (get 8 e)) H lo:=qDh
theorem za {pg:Pg} {v0 v1 v7 v8:V} {H:List Obj} {lo:Nat}:qJ pg v0 v1 v7 v8 H lo=qkS pg (exL pg qs ⟨[(0,qgf v0),(1,qgf v1),(7,qgf v7),(8,qgf v8)],H,lo⟩) qt:=by
 unfold qJ qt;rw [qqf];simp only [qlr,yV,qjr,Nat.reduceEqDiff]
theorem qwg {L:List (List Nat)} {t:List Nat} (hz:L.length≤1000000000000) {H:List Obj} :
  ∀(k i:Nat),L.length - i=k→i≤L.length→(∀j,j<i→L[j]?≠some t)→
   ∃e x r,(x=.nrm∨x=.ret)∧(decide ((0:Int)≤r)=decide (t ∈ L))∧get 4 e=.d (.i .i64 r)∧
    qkS pg (qoF 0 [] (qJ pg (.d (slD D.s L)) (.d (.s t)) (.d (.i .i64 (L.length:Nat))) (.d (.i .i64 (i:Nat))) H H.length)) qI=some (x,⟨e,H,H.length⟩):=by
 intro k
 induction k with
 | zero=>
  intro i hk hi hno
  obtain rfl:i=L.length:=by omega
  have h1:((L.length:Int)<(L.length:Int))=False:=by simp
  have hnm:t ∉ L:=by
   intro h
   obtain ⟨j,hj⟩:=List.getElem?_of_mem h
   have:j<L.length:=(List.getElem?_eq_some_iff.1 hj).1
   exact hno j this hj
  rw [za]
  simp only [qlr,qs,Bool.or_self,reduceCtorEq,Nat.reduceEqDiff,qtM,h1,decide_false,qnO,qpW,qNa,↓reduceIte,qAA,qwZ,qum,qjr,qI,Int.reduceNeg]
  exact ⟨_,_,-1,.inr rfl,by simp [hnm],rfl,rfl⟩
 | succ k ih=>
  intro i hk hi hno
  have h1:((i:Int)<(L.length:Int))=True:=by rw [eq_iff_iff];simp;omega
  have hlt:i<L.length:=by omega
  have hia:iaV (.d (slD D.s L)) (.d (.i .i64 (i:Int))) 1 none=some (.cp (.s L[i])):=qFl (fun _=>rfl) (by omega) (by simp)
  have hw:wr .i64 ((i:Int)+1)=((i+1:Nat):Int):=by rw [qHQ (by omega) (by omega)];omega
  rw [za]
  by_cases he:t=L[i]
  ·have h2:(t=L[i])=True:=by simp [he]
   simp only [qlr,qs,Bool.or_self,reduceCtorEq,Nat.reduceEqDiff,qtM,h1,decide_true,qnO,qpW,↓reduceIte,qql,qpa,hia,qwi,qmy,h2,qwS,qsA,qI,Int.reduceNeg]
   exact ⟨_,_,(i:Int),.inr rfl,by rw [he];simp,rfl,rfl⟩
  ·have h2:(t=L[i])=False:=by simp [he]
   have ih':=ih (i+1) (by omega) (by omega) (fun j hj=>by
    rcases Nat.lt_or_ge j i with h|h
    ·exact hno j h
    ·obtain rfl:j=i:=by omega
     rw [List.getElem?_eq_getElem hlt]
     intro h';exact he (Option.some.inj h').symm)
   simp only [qlr,qs,Bool.or_self,reduceCtorEq,Nat.reduceEqDiff,qtM,h1,decide_true,qnO,qpW,↓reduceIte,qql,qpa,hia,qwi,qmy,h2,decide_false,qNa,qwL,yV,qjr,quL,Bool.or_true,qEu,hw,zc]
   exact ih'
theorem qwK {L:List (List Nat)} {t:List Nat} (hz:L.length≤1000000000000) {H:List Obj} :
  ∃r:Int,decide ((0:Int)≤r)=decide (t ∈ L)∧qf pg 178 [.d (slD D.s L),.d (.s t)] H=some ⟨false,true,.d (.i .i64 r),H,H.length⟩:=by
 obtain ⟨e,x,r,hx,h1,h2,h3⟩:=qwg (t:=t) hz (H:=H) L.length 0 rfl (by omega) (by simp)
 refine ⟨r,h1,?_⟩
 rw [qR (fn:=qA) rfl rfl]
 have hz0:((0:Nat):Int)=0:=rfl
 rw [hz0] at h3
 simp only [qlr,qA,qNe,Nat.reduceAdd,reduceCtorEq,qqF,qBp,qpa,zc,Nat.reduceEqDiff]
 rw [h3]
 rcases hx with rfl|rfl
 all_goals simp only [qlr,qA3,h2,qQ]
 all_goals rfl
theorem qrK {L:List (List Nat)} {t:List Nat} (hz:L.length≤1000000000000) {H:List Obj}:qf pg 112 [.d (slD D.s L),.d (.s t)] H=some ⟨false,true,.d (.b (decide (t ∈ L))),H,H.length⟩:=by
 obtain ⟨r,h1,h2⟩:=qwK (t:=t) hz (H:=H)
 rw [qR (fn:=qu) rfl rfl]
 simp only [qlr,qu,qNe,Nat.reduceAdd,qq9,reduceCtorEq,qjz,qgo,Nat.reduceEqDiff,qaC,List.map_cons,List.map_nil,zS,jF,qNf,qjf,h2,qat,zT,jt,Nat.min_self,quL,Bool.or_true,qxE,h1,qQ]
 all_goals rfl
noncomputable def ctX (vs:List V) (H:List Obj):Option Cr:=
 match vs with
 | [l,w]=>(match vL l,vT w with
  | .sl (x::xs),.s w=>Option.rec (motive:=fun _=>Option Cr) none (fun b=>Bool.rec (motive:=fun _=>Option Cr) none (qwT H b) (Nat.ble (z5 (x::xs)) 1000000000000)) (elF w (x::xs))
  | _,_=>none)
 | _=>none
theorem qGf {vs:List V} {H:List Obj} {r:Cr} (h:ctX vs H=some r):qf pg 112 vs H=some r:=by
 unfold ctX at h
 split at h
 ·split at h
  ·rename_i x xs w' hl hw
   rw [qBa hl,qoK hw]
   cases he:elF w' (x::xs) with
   | none=>rw [he] at h;cases h
   | some b=>
    rw [he] at h
    obtain ⟨L,hL,rfl⟩:=quq he
    cases hb:Nat.ble (z5 (x::xs)) 1000000000000 with
    | false=>rw [hb] at h;cases h
    | true=>
     rw [hb] at h
     rw [qnN h]
     have hz:=Nat.le_of_ble_eq_true hb
     rw [kh,hL,List.length_map] at hz
     have hs:D.sl (x::xs)=slD D.s L:=by
      rw [hL]
      cases L with
      | nil=>cases hL
      | cons a l=>rfl
     rw [hs]
     exact qrK hz
  ·cases h
 ·cases h
end W
/- What stands in for small functions; calls whose results are known. -/
namespace W
set_option maxRecDepth 100000
inductive KZ where
 | mk (f:List V→List Obj→Option Cr)
noncomputable def KZ.run (k:KZ):List V→List Obj→Option Cr:=KZ.rec (motive:=fun _=>List V→List Obj→Option Cr) (fun f=>f) k
def qMq:D:=(.s [65,82,82,65,89,32,66,69,71,73,78,32,66,89,32,67,65,83,69,32,67,79,78,83,84,32,68,73,86,32,68,79,32,69,76,83,69,32,69,76,83,73,70,32,69,78,68,32,70,65,76,83,69,32,70,79,82,32,73,70,32,73,77,80,79,82,84,32,73,78,32,73,83,32,77,79,68,32,77,79,68,85,76,69,32,78,73,76,32,79,70,32,79,82,32,80,79,73,78,84,69,82,32,80,82,79,67,69,68,85,82,69,32,82,69,67,79,82,68,32,82,69,80,69,65,84,32,82,69,84,85,82,78,32,84,72,69,78,32,84,79,32,84,82,85,69,32,84,89,80,69,32,85,78,84,73,76,32,86,65,82,32,87,72,73,76,69])
def qMs:D:=(.sl (List.map .s [[65,82,82,65,89],[66,69,71,73,78],[66,89],[67,65,83,69],[67,79,78,83,84],[68,73,86],[68,79],[69,76,83,69],[69,76,83,73,70],[69,78,68],[70,65,76,83,69],[70,79,82],[73,70],[73,77,80,79,82,84],[73,78],[73,83],[77,79,68],[77,79,68,85,76,69],[78,73,76],[79,70],[79,82],[80,79,73,78,84,69,82],[80,82,79,67,69,68,85,82,69],[82,69,67,79,82,68],[82,69,80,69,65,84],[82,69,84,85,82,78],[84,72,69,78],[84,79],[84,82,85,69],[84,89,80,69],[85,78,84,73,76],[86,65,82],[87,72,73,76,69]]))
def qMI:D:=(.s [73,78,84,69,71,69,82,32,67,72,65,82,32,66,79,79,76,69,65,78,32,83,69,84,32,65,66,83,32,79,68,68,32,76,83,76,32,65,83,82,32,82,79,82,32,79,82,68,32,67,72,82,32,76,69,78,32,73,78,67,32,68,69,67,32,73,78,67,76,32,69,88,67,76,32,78,69,87,32,65,83,83,69,82,84])
def qME:D:=(.sl (List.map .s [[73,78,84,69,71,69,82],[67,72,65,82],[66,79,79,76,69,65,78],[83,69,84],[65,66,83],[79,68,68],[76,83,76],[65,83,82],[82,79,82],[79,82,68],[67,72,82],[76,69,78],[73,78,67],[68,69,67],[73,78,67,76],[69,88,67,76],[78,69,87],[65,83,83,69,82,84]]))
def quF:List Ent:=[
⟨78,[(.s [77,79,68,85,76,69])],.one (.b true)⟩,
⟨78,[(.s [76])],.one (.b false)⟩,
⟨78,[(.s [67,79,78,83,84])],.one (.b true)⟩,
⟨78,[(.s [99])],.one (.b false)⟩,
⟨78,[(.s [84,89,80,69])],.one (.b true)⟩,
⟨78,[(.s [82])],.one (.b false)⟩,
⟨78,[(.s [82,69,67,79,82,68])],.one (.b true)⟩,
⟨78,[(.s [120])],.one (.b false)⟩,
⟨78,[(.s [73,78,84,69,71,69,82])],.one (.b false)⟩,
⟨78,[(.s [69,78,68])],.one (.b true)⟩,
⟨78,[(.s [65])],.one (.b false)⟩,
⟨78,[(.s [65,82,82,65,89])],.one (.b true)⟩,
⟨78,[(.s [79,70])],.one (.b true)⟩,
⟨78,[(.s [86,65,82])],.one (.b true)⟩,
⟨78,[(.s [118])],.one (.b false)⟩,
⟨78,[(.s [80,82,79,67,69,68,85,82,69])],.one (.b true)⟩,
⟨78,[(.s [102])],.one (.b false)⟩,
⟨78,[(.s [110])],.one (.b false)⟩,
⟨78,[(.s [82,69,84,85,82,78])],.one (.b true)⟩,
⟨78,[(.s [112])],.one (.b false)⟩,
⟨78,[(.s [66,69,71,73,78])],.one (.b true)⟩,
⟨78,[(.s [73,78,67])],.one (.b false)⟩,
⟨78,[(.s [77])],.one (.b false)⟩,
⟨78,[(.s [73,77,80,79,82,84])],.one (.b true)⟩,
⟨78,[(.s [105])],.one (.b false)⟩,
⟨78,[(.s [114])],.one (.b false)⟩,
⟨78,[(.s [97])],.one (.b false)⟩,
⟨81,[(.s [43,45,42,47,38,126,61,35,60,62,46,44,59,58,40,41,91,93,123,125,94,124]),(.i .u8 59)],.one (.b true)⟩,
⟨81,[(.s [43,45,42,47,38,126,61,35,60,62,46,44,59,58,40,41,91,93,123,125,94,124]),(.i .u8 61)],.one (.b true)⟩,
⟨81,[(.s [43,45,42,47,38,126,61,35,60,62,46,44,59,58,40,41,91,93,123,125,94,124]),(.i .u8 58)],.one (.b true)⟩,
⟨81,[(.s [43,45,42,47,38,126,61,35,60,62,46,44,59,58,40,41,91,93,123,125,94,124]),(.i .u8 40)],.one (.b true)⟩,
⟨81,[(.s [43,45,42,47,38,126,61,35,60,62,46,44,59,58,40,41,91,93,123,125,94,124]),(.i .u8 41)],.one (.b true)⟩,
⟨81,[(.s [43,45,42,47,38,126,61,35,60,62,46,44,59,58,40,41,91,93,123,125,94,124]),(.i .u8 43)],.one (.b true)⟩,
⟨81,[(.s [43,45,42,47,38,126,61,35,60,62,46,44,59,58,40,41,91,93,123,125,94,124]),(.i .u8 46)],.one (.b true)⟩,
⟨81,[(.s [43,45,42,47,38,126,61,35,60,62,46,44,59,58,40,41,91,93,123,125,94,124]),(.i .u8 42)],.one (.b true)⟩,
⟨81,[(.s [43,45,42,47,38,126,61,35,60,62,46,44,59,58,40,41,91,93,123,125,94,124]),(.i .u8 91)],.one (.b true)⟩,
⟨81,[(.s [43,45,42,47,38,126,61,35,60,62,46,44,59,58,40,41,91,93,123,125,94,124]),(.i .u8 93)],.one (.b true)⟩,
⟨113,[qMq],.one qMs⟩,
⟨113,[qMI],.one qME⟩]
def qLL (n:Nat):Bool:=qM8 n 38 || qM8 n 41 || qM8 n 51 || qM8 n 75 || qM8 n 76 || qM8 n 78 || qM8 n 81 || qM8 n 104 || qM8 n 106 || qM8 n 108 || qM8 n 112 || qM8 n 113 || qM8 n 115 || qM8 n 172 || qM8 n 296
noncomputable def zl:List (Nat × KZ):=[(51,.mk (qua)),(41,.mk (qua)),(115,.mk (isX)),(38,.mk (qz4)),(104,.mk (byX cLt)),(76,.mk (byX cLt)),(106,.mk (byX cDg)),(172,.mk (byX cNm)),(75,.mk (byX cBl)),(108,.mk (qI6)),(112,.mk (ctX)),(296,.mk (ixX))]
noncomputable def eq1 (v:V) (y:D):Bool:=OT.rec (motive:=fun _=>Bool) (qkv [v] [y]) (fun t=>OT.rec (motive:=fun _=>Bool) false (fun u=>qo1 t u) (vT (.d y))) (vT v)
noncomputable def qt8 (vs:List V):List D→Bool:=List.rec (motive:=fun _=>List D→Bool) (fun l=>List.rec (motive:=fun _=>Bool) true (fun _ _ _=>false) l) (fun v _ ih l=>List.rec (motive:=fun _=>Bool) false (fun y r _=>Bool.rec (motive:=fun _=>Bool) false (ih r) (eq1 v y)) l) vs
noncomputable def qt2 (i:Nat) (vs:List V) (T:List Ent):Option Ent:=List.rec (motive:=fun _=>Option Ent) none (fun e _ ih=>Bool.rec (motive:=fun _=>Option Ent) ih (Bool.rec (motive:=fun _=>Option Ent) ih (some e) (qt8 vs e.a)) (qM8 e.f i)) T
theorem qHE {v:V} {y:D}:eq1 v y=qkv [v] [y]:=by
 unfold eq1
 cases hv:vT v with
 | no=>rfl
 | s t=>
  rw [qoK hv]
  cases hy:vT (.d y) with
  | no=>
   show false=(eqD (.s t) y && true)
   cases y with
   | s u=>cases hy
   | _=>rfl
  | s u=>
   have e:=qoK hy;cases e
   show qo1 t u=(eqD (.s t) (.s u) && true)
   rw [qpT,Bool.and_true];rfl
theorem quO:∀(vs:List V) (l:List D),qt8 vs l=qkv vs l
 | [],[]=>rfl
 | [],_::_=>rfl
 | v::vs,[]=>by cases v<;>rfl
 | v::vs,y::l=>by
  have e:qt8 (v::vs) (y::l)=Bool.rec (motive:=fun _=>Bool) false (qt8 vs l) (eq1 v y):=rfl
  rw [e,qHE,quO vs l]
  cases v with
  | d x=>simp only [qkv,Bool.and_true];cases eqD x y<;>rfl
  | _=>rfl
theorem qt1 {i:Nat} {vs:List V}:∀T:List Ent,qt2 i vs T=pick i vs T
 | []=>rfl
 | e::T=>by
  have h:qt2 i vs (e::T)=Bool.rec (motive:=fun _=>Option Ent) (qt2 i vs T) (Bool.rec (motive:=fun _=>Option Ent) (qt2 i vs T) (some e) (qt8 vs e.a)) (qM8 e.f i):=rfl
  rw [h,qt1 T,quO]
  rw [show pick i vs (e::T)=bif qM8 e.f i && qkv vs e.a then some e else pick i vs T from rfl]
  cases qM8 e.f i<;>cases qkv vs e.a<;>rfl
noncomputable def qAW (T:List Ent) (i:Nat) (vs:List V) (H:List Obj):Option Cr:=Option.rec (motive:=fun _=>Option Cr) none (fun e=>some ⟨false,true,e.r.v,H,H.length⟩) (qt2 i vs T)
theorem qDe {T:List Ent} {i:Nat} {vs:List V} {H:List Obj}:qAW T i vs H=qrM T i vs H:=by
 unfold qAW qrM
 rw [qt1]
 cases pick i vs T<;>rfl
noncomputable def qso (i:Nat) (l:List (Nat × KZ)) (d:KZ):KZ:=List.rec (motive:=fun _=>KZ) d (fun p _ ih=>Bool.rec (motive:=fun _=>KZ) ih p.2 (qM8 p.1 i)) l
noncomputable def pgT (gone:Nat→Bool) (T:List Ent):Pg:=⟨fun n=>bif qLL n || gone n then none else pg.fn n,fun i vs H=>(qso i zl (.mk (qAW T i))).run vs H⟩
noncomputable def pg1:Pg:=pgT (fun _=>false) quF
theorem qLO:∀p ∈ zl,∀vs H r,p.2.run vs H=some r→qf pg p.1 vs H=some r:=by
 simp only [zl,List.forall_mem_cons]
 exact ⟨fun _ _ _ h=>qA0 h,fun _ _ _ h=>qBq h,fun _ _ _ h=>qKC h,fun _ _ _ h=>qCL h,fun _ _ _ h=>(by obtain ⟨c,rfl,rfl⟩:=qlt h;exact qpn),fun _ _ _ h=>(by obtain ⟨c,rfl,rfl⟩:=qlt h;exact qsZ),fun _ _ _ h=>(by obtain ⟨c,rfl,rfl⟩:=qlt h;exact qqk),fun _ _ _ h=>(by obtain ⟨c,rfl,rfl⟩:=qlt h;exact qwc),fun _ _ _ h=>(by obtain ⟨c,rfl,rfl⟩:=qlt h;exact qv7),fun _ _ _ h=>qDG h,fun _ _ _ h=>qGf h,fun _ _ _ h=>(by rw [qod];unfold qq;rw [show pg.fn 296=none from rfl];exact h),fun _ h=>by cases h⟩
theorem qvy {i:Nat} {d:KZ}:∀l:List (Nat × KZ),qso i l d=d∨∃p ∈ l,p.1=i∧qso i l d=p.2
 | []=>.inl rfl
 | p::l=>by
  have e:qso i (p::l) d=Bool.rec (motive:=fun _=>KZ) (qso i l d) p.2 (qM8 p.1 i):=rfl
  rw [e]
  cases hb:qM8 p.1 i with
  | true=>exact .inr ⟨p,.head _,qM5 hb,rfl⟩
  | false=>exact (qvy l).elim .inl fun ⟨q,hq,h⟩=>.inr ⟨q,.tail _ hq,h⟩
theorem qvm {T:List Ent} {i:Nat} {vs:List V} {H:List Obj} {r:Cr} (h:(qso i zl (.mk (qAW T i))).run vs H=some r):qf pg i vs H=some r∨qrM T i vs H=some r:=by
 rcases qvy (i:=i) (d:=.mk (qAW T i)) zl with e|⟨p,hp,rfl,e⟩
 ·rw [e] at h;exact .inr (qDe▸h)
 ·rw [e] at h;exact .inl (qLO p hp vs H r h)
theorem qDg {pg:Pg} (hx:qy pg.ext) (f:Nat):qy fun _ vs H=>qf pg f vs H:=fun i vs H r h=>by
 obtain ⟨n,hn⟩:=jd.1 h
 exact yj hx (qan hx n) _ _ _ _ hn
theorem j0 {gone:Nat→Bool} {T:List Ent}:qy (pgT gone T).ext:=fun i vs H r h=>by
 rcases qvm h with h|h
 ·exact qDg qwD i i vs H r h
 ·exact qxQ i vs H r h
end W
/- A module and what it exports; modules that name it; their symbols, their trees. -/
namespace W
set_option maxRecDepth 100000
def mk (b:Bool):List Nat:=bif b then [42] else []
def pL0:List Nat:=[77,79,68,85,76,69,32,76,59,32,67,79,78,83,84,32,99]
def pL1:List Nat:=[32,61,32,51,59,32,84,89,80,69,32,82]
def pL2:List Nat:=[32,61,32,82,69,67,79,82,68,32,120,58,32,73,78,84,69,71,69,82,32,69,78,68,59,32,65]
def pL3:List Nat:=[32,61,32,65,82,82,65,89,32,50,32,79,70,32,73,78,84,69,71,69,82,59,32,86,65,82,32,118]
def pL4:List Nat:=[58,32,73,78,84,69,71,69,82,59,32,80,82,79,67,69,68,85,82,69,32,102]
def pL5:List Nat:=[32,40,110,58,32,73,78,84,69,71,69,82,41,58,32,73,78,84,69,71,69,82,59,32,82,69,84,85,82,78,32,110,32,43,32,49,32,69,78,68,32,102,59,32,80,82,79,67,69,68,85,82,69,32,112]
def pL6:List Nat:=[32,40,86,65,82,32,110,58,32,73,78,84,69,71,69,82,41,59,32,66,69,71,73,78,32,73,78,67,40,110,41,32,69,78,68,32,112,59,32,69,78,68,32,76,46]
def sL (b0 b1 b2 b3 b4 b5:Bool):List Nat:=((((((pL0++mk b0)++pL1++mk b1)++pL2++mk b2)++pL3++mk b3)++pL4++mk b4)++pL5++mk b5)++pL6
def isW (c:Nat):Bool:=(Nat.ble 48 c && Nat.ble c 57) || (Nat.ble 65 c && Nat.ble c 90) || (Nat.ble 97 c && Nat.ble c 122)
def tk (k a b:Nat) (t:List Nat) (n:Nat):D:=.agg [.i .i64 (.ofNat k),.i .i64 (.ofNat a),.i .i64 (.ofNat b),.s t,.i .i32 (.ofNat n)]
def kws:List (List Nat):=[[65,82,82,65,89],[66,69,71,73,78],[67,79,78,83,84],[69,78,68],[73,77,80,79,82,84],[77,79,68,85,76,69],[79,70],[80,82,79,67,69,68,85,82,69],[82,69,67,79,82,68],[82,69,84,85,82,78],[84,89,80,69],[86,65,82]]
def wd (p:Nat) (w:List Nat) (r:List D):List D:=match w with
 | []=>r
 | c::_=>let a:=p - w.length
  bif !isW c then tk 5 a p w.reverse 0::r
  else bif Nat.ble c 57 then tk 2 a p [] (c - 48)::r
  else tk (bif kws.any (eqT w.reverse) then 6 else 1) a p w.reverse 0::r
def toks (p:Nat) (w:List Nat):List Nat→List D
 | []=>wd p w [tk 0 p p [] 0]
 | c::l=>
  bif isW c then (match w with
   | d::_=>bif isW d then toks (p+1) (c::w) l else wd p w (toks (p+1) [c] l)
   | []=>toks (p+1) [c] l)
  else bif qM8 c 61 && eqT w [58] then wd (p+1) (c::w) (toks (p+1) [] l)
  else wd p w (bif qM8 c 58 then toks (p+1) [c] l else bif qM8 c 32 then toks (p+1) [] l else tk 5 p (p+1) [c] 0::toks (p+1) [] l)
def tkS (s:List Nat):D:=.sl (toks 0 [] s)
def lM (b0 b1 b2 b3 b4 b5:Bool):D:=(.agg [(.s [76]),.nil,(.sl [(.agg [(.s [99]),(.b b0),(.i .i64 0),(.i .i64 1),(.i .i64 0),(.s []),.nil,(.i .i32 3),(.s []),.nil])]),(.sl [(.agg [(.s [65]),(.b b2),(.i .i64 7),(.i .i64 2),(.s []),(.sl [(.agg [(.i .i64 1),(.i .i64 0),(.s []),.nil])])])]),(.sl [(.agg [(.s [82]),(.b b1),(.s []),(.sl [(.agg [(.s [120]),(.b false),(.i .i64 1),(.i .i64 0),(.s []),.nil])])])]),(.sl [(.agg [(.s [118]),(.b b3),(.i .i64 1),(.i .i64 0),(.s []),.nil])]),(.sl [(.agg [(.s [102]),(.b b4),(.sl [(.agg [(.s [110]),(.b false),(.i .i64 1),(.i .i64 0),(.s []),.nil])]),(.i .i64 1),(.i .i64 0),(.s []),.nil,.nil,.nil,(.sl [(.agg [(.i .i64 9),(.i .i64 1),(.i .i64 0),(.s []),.nil,(.i .i32 0),(.s []),(.sl [(.agg [(.i .i64 1),(.i .i64 1),(.i .i64 0),(.s []),.nil,(.i .i32 0),(.s [110]),.nil]),(.agg [(.i .i64 0),(.i .i64 1),(.i .i64 0),(.s []),.nil,(.i .i32 1),(.s []),.nil])])])])]),(.agg [(.s [112]),(.b b5),(.sl [(.agg [(.s [110]),(.b true),(.i .i64 1),(.i .i64 0),(.s []),.nil])]),(.i .i64 0),(.i .i64 0),(.s []),.nil,.nil,(.sl [(.agg [(.i .i64 7),(.sl [(.agg [(.i .i64 1),(.i .i64 1),(.i .i64 0),(.s []),.nil,(.i .i32 0),(.s [110]),.nil]),(.agg [(.i .i64 0),(.i .i64 1),(.i .i64 0),(.s []),.nil,(.i .i32 1),(.s []),.nil])]),.nil,.nil])]),.nil])]),.nil])
def sM (u:Nat):List Nat:=match u with
 | 0=>[77,79,68,85,76,69,32,77,59,32,73,77,80,79,82,84,32,76,59,32,86,65,82,32,105,58,32,73,78,84,69,71,69,82,59,32,66,69,71,73,78,32,105,32,58,61,32,76,46,99,32,69,78,68,32,77,46]
 | 1=>[77,79,68,85,76,69,32,77,59,32,73,77,80,79,82,84,32,76,59,32,86,65,82,32,114,58,32,76,46,82,59,32,66,69,71,73,78,32,114,46,120,32,58,61,32,49,32,69,78,68,32,77,46]
 | 2=>[77,79,68,85,76,69,32,77,59,32,73,77,80,79,82,84,32,76,59,32,86,65,82,32,105,58,32,73,78,84,69,71,69,82,59,32,97,58,32,76,46,65,59,32,66,69,71,73,78,32,97,91,49,93,32,58,61,32,105,32,69,78,68,32,77,46]
 | 3=>[77,79,68,85,76,69,32,77,59,32,73,77,80,79,82,84,32,76,59,32,86,65,82,32,105,58,32,73,78,84,69,71,69,82,59,32,66,69,71,73,78,32,105,32,58,61,32,76,46,118,32,69,78,68,32,77,46]
 | 4=>[77,79,68,85,76,69,32,77,59,32,73,77,80,79,82,84,32,76,59,32,86,65,82,32,105,58,32,73,78,84,69,71,69,82,59,32,66,69,71,73,78,32,105,32,58,61,32,76,46,102,40,50,41,32,69,78,68,32,77,46]
 | 5=>[77,79,68,85,76,69,32,77,59,32,73,77,80,79,82,84,32,76,59,32,86,65,82,32,105,58,32,73,78,84,69,71,69,82,59,32,66,69,71,73,78,32,76,46,112,40,105,41,32,69,78,68,32,77,46]
 | 6=>[77,79,68,85,76,69,32,77,59,32,73,77,80,79,82,84,32,76,59,32,86,65,82,32,105,58,32,73,78,84,69,71,69,82,59,32,66,69,71,73,78,32,76,46,118,32,58,61,32,49,32,69,78,68,32,77,46]
 | _=>[77,79,68,85,76,69,32,77,59,32,73,77,80,79,82,84,32,76,59,32,86,65,82,32,105,58,32,73,78,84,69,71,69,82,59,32,66,69,71,73,78,32,76,46,112,40,76,46,118,41,32,69,78,68,32,77,46]
def tre (u:Nat):D:=match u with
 | 0=>(.agg [(.s [77]),(.sl [(.s [76])]),.nil,.nil,.nil,(.sl [(.agg [(.s [105]),(.b false),(.i .i64 1),(.i .i64 0),(.s []),.nil])]),.nil,(.sl [(.agg [(.i .i64 0),(.sl [(.agg [(.i .i64 1),(.i .i64 1),(.i .i64 0),(.s []),.nil,(.i .i32 0),(.s [77,46,105]),.nil]),(.agg [(.i .i64 0),(.i .i64 1),(.i .i64 0),(.s []),.nil,(.i .i32 3),(.s []),.nil])]),.nil,.nil])])])
 | 1=>(.agg [(.s [77]),(.sl [(.s [76])]),.nil,.nil,.nil,(.sl [(.agg [(.s [114]),(.b false),(.i .i64 8),(.i .i64 0),(.s [76,46,82]),.nil])]),.nil,(.sl [(.agg [(.i .i64 0),(.sl [(.agg [(.i .i64 3),(.i .i64 1),(.i .i64 0),(.s []),.nil,(.i .i32 0),(.s [120]),(.sl [(.agg [(.i .i64 1),(.i .i64 8),(.i .i64 0),(.s [76,46,82]),.nil,(.i .i32 0),(.s [77,46,114]),.nil])])]),(.agg [(.i .i64 0),(.i .i64 1),(.i .i64 0),(.s []),.nil,(.i .i32 1),(.s []),.nil])]),.nil,.nil])])])
 | 2=>(.agg [(.s [77]),(.sl [(.s [76])]),.nil,.nil,.nil,(.sl [(.agg [(.s [105]),(.b false),(.i .i64 1),(.i .i64 0),(.s []),.nil]),(.agg [(.s [97]),(.b false),(.i .i64 7),(.i .i64 2),(.s []),(.sl [(.agg [(.i .i64 1),(.i .i64 0),(.s []),.nil])])])]),.nil,(.sl [(.agg [(.i .i64 0),(.sl [(.agg [(.i .i64 2),(.i .i64 1),(.i .i64 0),(.s []),.nil,(.i .i32 0),(.s []),(.sl [(.agg [(.i .i64 1),(.i .i64 7),(.i .i64 2),(.s []),(.sl [(.agg [(.i .i64 1),(.i .i64 0),(.s []),.nil])]),(.i .i32 0),(.s [77,46,97]),.nil]),(.agg [(.i .i64 0),(.i .i64 1),(.i .i64 0),(.s []),.nil,(.i .i32 1),(.s []),.nil])])]),(.agg [(.i .i64 1),(.i .i64 1),(.i .i64 0),(.s []),.nil,(.i .i32 0),(.s [77,46,105]),.nil])]),.nil,.nil])])])
 | 3=>(.agg [(.s [77]),(.sl [(.s [76])]),.nil,.nil,.nil,(.sl [(.agg [(.s [105]),(.b false),(.i .i64 1),(.i .i64 0),(.s []),.nil])]),.nil,(.sl [(.agg [(.i .i64 0),(.sl [(.agg [(.i .i64 1),(.i .i64 1),(.i .i64 0),(.s []),.nil,(.i .i32 0),(.s [77,46,105]),.nil]),(.agg [(.i .i64 1),(.i .i64 1),(.i .i64 0),(.s []),.nil,(.i .i32 0),(.s [76,46,118]),.nil])]),.nil,.nil])])])
 | 4=>(.agg [(.s [77]),(.sl [(.s [76])]),.nil,.nil,.nil,(.sl [(.agg [(.s [105]),(.b false),(.i .i64 1),(.i .i64 0),(.s []),.nil])]),.nil,(.sl [(.agg [(.i .i64 0),(.sl [(.agg [(.i .i64 1),(.i .i64 1),(.i .i64 0),(.s []),.nil,(.i .i32 0),(.s [77,46,105]),.nil]),(.agg [(.i .i64 6),(.i .i64 1),(.i .i64 0),(.s []),.nil,(.i .i32 0),(.s [76,46,102]),(.sl [(.agg [(.i .i64 0),(.i .i64 1),(.i .i64 0),(.s []),.nil,(.i .i32 2),(.s []),.nil])])])]),.nil,.nil])])])
 | _=>(.agg [(.s [77]),(.sl [(.s [76])]),.nil,.nil,.nil,(.sl [(.agg [(.s [105]),(.b false),(.i .i64 1),(.i .i64 0),(.s []),.nil])]),.nil,(.sl [(.agg [(.i .i64 1),(.sl [(.agg [(.i .i64 6),(.i .i64 0),(.i .i64 0),(.s []),.nil,(.i .i32 0),(.s [76,46,112]),(.sl [(.agg [(.i .i64 1),(.i .i64 1),(.i .i64 0),(.s []),.nil,(.i .i32 0),(.s [77,46,105]),.nil])])])]),.nil,.nil])])])
def bad:D:=.agg [.s [],.nil,.nil,.nil,.nil,.nil,.nil,.nil]
def wrong (b0 b1 b2 b3 b4 b5:Bool) (u:Nat):Option (Nat × Nat):=match u with
 | 0=>bif b0 then none else some (47,32)
 | 1=>bif b1 then none else some (27,32)
 | 2=>bif b2 then none else some (39,32)
 | 3=>bif b3 then none else some (47,32)
 | 4=>bif b4 then none else some (47,32)
 | 5=>bif b5 then none else some (42,32)
 | 6=>some (42,bif b3 then 33 else 32)
 | _=>some (bif b5 then (bif b3 then (42,33) else (46,32)) else (42,32))
def oF (u:Nat):Option (Nat × Nat)→Out
 | none=>.tup [tre u,.nil]
 | some (p,c)=>.tup [bad,.sl [.agg [.i .i64 (.ofNat p),.i .i64 (.ofNat c)]]]
def oR (u:Nat):Option (Nat × Nat)→Out
 | none=>.tup [tre u,.i .i64 0]
 | some (_,c)=>.tup [bad,.i .i64 (.ofNat c)]
def eSL (b0 b1 b2 b3 b4 b5:Bool):Ent:=⟨13,[.s (sL b0 b1 b2 b3 b4 b5)],.tup [tkS (sL b0 b1 b2 b3 b4 b5),.i .i64 0,.i .i64 0]⟩
def eL (b0 b1 b2 b3 b4 b5:Bool):Ent:=⟨10,[.s (sL b0 b1 b2 b3 b4 b5),.nil],.tup [lM b0 b1 b2 b3 b4 b5,.i .i64 0]⟩
def eSF (u:Nat):Ent:=⟨16,[.s (sM u)],.tup [tkS (sM u),.nil]⟩
def eSR (u:Nat):Ent:=⟨13,[.s (sM u)],.tup [tkS (sM u),.i .i64 0,.i .i64 0]⟩
def eF (b0 b1 b2 b3 b4 b5:Bool) (u:Nat):Ent:=⟨11,[.s (sM u),.sl [lM b0 b1 b2 b3 b4 b5]],oF u (wrong b0 b1 b2 b3 b4 b5 u)⟩
def eR (b0 b1 b2 b3 b4 b5:Bool) (u:Nat):Ent:=⟨10,[.s (sM u),.sl [lM b0 b1 b2 b3 b4 b5]],oR u (wrong b0 b1 b2 b3 b4 b5 u)⟩
def eSa (u:Nat):Ent:=⟨12,[tre u,tre u],.one (.b true)⟩
def fe_k:Ent:=⟨7,[],.one (.b true)⟩
def g1 (n:Nat):Bool:=qM8 n 13 || qM8 n 16
noncomputable def frc {γ:Type} (l:List Nat) (κ:List Nat→γ):γ:=List.rec (motive:=fun _=>(List Nat→γ)→γ) (fun κ=>κ []) (fun x _ ih κ=>ih fun r=>κ (x::r)) l κ
theorem qtZ {γ:Type}:∀(l:List Nat) (κ:List Nat→γ),frc l κ=κ l
 | [],κ=>rfl
 | x::l,κ=>by show frc l (fun r=>κ (x::r))=_;rw [qtZ]
def qd (P:Bool→Bool):Bool:=P false && P true
theorem qao {P:Bool→Bool} (h:qd P=true) (b:Bool):P b=true:=by
 simp only [qd,qM4] at h
 cases b
 ·exact h.1
 ·exact h.2
def qc7 (e:Ent):Prop:=∃g T,(∀x ∈ T,x.Ok pg1)∧e.Ok (pgT g (T++quF))
noncomputable def qEz (a b:Bool):Bool:=Bool.rec (motive:=fun _=>Bool) false b a
theorem qtb {a b:Bool} (h:qEz a b=true):a=true∧b=true:=by cases a<;>first|exact ⟨rfl,h⟩|cases h
noncomputable def yq (b0 b1 b2 b3 b4 b5:Bool):Bool:=frc (sL b0 b1 b2 b3 b4 b5) fun s=>qmX (tkS s) fun t=>qmX (lM b0 b1 b2 b3 b4 b5) fun m=>qEz (Ent.is (qaO pg1 1000 13 [.d (.s s)] []) (.tup [t,.i .i64 0,.i .i64 0])) (Ent.is (qaO (pgT g1 (⟨13,[.s s],.tup [t,.i .i64 0,.i .i64 0]⟩::quF)) 1000 10 [.d (.s s),.d .nil] []) (.tup [m,.i .i64 0]))
theorem qFn {b0 b1 b2 b3 b4 b5:Bool} (h:yq b0 b1 b2 b3 b4 b5=true):qc7 (eL b0 b1 b2 b3 b4 b5):=by
 unfold yq at h
 rw [qtZ,qe0,qe0] at h
 obtain ⟨h1,h2⟩:=qtb h
 exact ⟨g1,[eSL b0 b1 b2 b3 b4 b5],by simp only [List.forall_mem_cons];exact ⟨qa9 j0 h1,fun _ h=>by cases h⟩,qa9 j0 h2⟩
noncomputable def qZ (u:Nat) (b0 b1 b2 b3 b4 b5:Bool):Bool:=frc (sM u) fun s=>qmX (tkS s) fun t=>qmX (lM b0 b1 b2 b3 b4 b5) fun m=>qEz (Ent.is (qaO (pgT g1 (⟨16,[.s s],.tup [t,.nil]⟩::⟨13,[.s s],.tup [t,.i .i64 0,.i .i64 0]⟩::quF)) 1000 11 [.d (.s s),.d (.sl [m])] []) (oF u (wrong b0 b1 b2 b3 b4 b5 u))) (Ent.is (qaO (pgT g1 (⟨16,[.s s],.tup [t,.nil]⟩::⟨13,[.s s],.tup [t,.i .i64 0,.i .i64 0]⟩::quF)) 1000 10 [.d (.s s),.d (.sl [m])] []) (oR u (wrong b0 b1 b2 b3 b4 b5 u)))
theorem qFo {u:Nat} {b0 b1 b2 b3 b4 b5:Bool} (h1:(eSF u).Ok pg1) (h2:(eSR u).Ok pg1) (h:qZ u b0 b1 b2 b3 b4 b5=true):qc7 (eF b0 b1 b2 b3 b4 b5 u)∧qc7 (eR b0 b1 b2 b3 b4 b5 u):=by
 unfold qZ at h
 rw [qtZ,qe0,qe0] at h
 obtain ⟨h3,h4⟩:=qtb h
 have ht:∀x ∈ [eSF u,eSR u],x.Ok pg1:=by
  simp only [List.forall_mem_cons]
  exact ⟨h1,h2,fun _ h=>by cases h⟩
 exact ⟨⟨g1,[eSF u,eSR u],ht,qa9 j0 h3⟩,⟨g1,[eSF u,eSR u],ht,qa9 j0 h4⟩⟩
noncomputable def qqt (u:Nat):Bool:=frc (sM u) fun s=>qmX (tkS s) fun t=>qEz (Ent.is (qaO pg1 1000 16 [.d (.s s)] []) (.tup [t,.nil])) (Ent.is (qaO pg1 1000 13 [.d (.s s)] []) (.tup [t,.i .i64 0,.i .i64 0]))
theorem qyd {u:Nat} (h:qqt u=true):(eSF u).Ok pg1∧(eSR u).Ok pg1:=by
 unfold qqt at h
 rw [qtZ,qe0] at h
 obtain ⟨h1,h2⟩:=qtb h
 exact ⟨qa9 j0 h1,qa9 j0 h2⟩
def feL (b0 b1 b2 b3 b4 b5:Bool) (u:Nat):List Ent:=[fe_k,eL b0 b1 b2 b3 b4 b5,eF b0 b1 b2 b3 b4 b5 u,eR b0 b1 b2 b3 b4 b5 u,eSa u]
end W
