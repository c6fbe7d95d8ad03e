/-
  RiscLimits: what code refuses to be made: of expressions that need too many registers, of too many words, of too great a heap.: part 7 of what the proof rests on (a value semantics for a part of the language, sound against the model; the walks).
-/
import Derived.KernelRfl
import Derived.Test.YtfgmbblhhmeefaaGreatW6
/-
  Code turned into closures, which the kernel works out once; each operation its own closure.
-/
set_option linter.unusedSimpArgs false
set_option linter.unusedVariables false
open Nat renaming beq→qHm,le_refl→qHq,eq_of_beq_eq_true→qHr,zero_add→qHB,le_of_ble_eq_true→qHF
open Bool renaming cond_eq_ite→qHn,and_eq_true→qHo,false_eq_true→qHu,and_self→qHw,not_true→qHC
open Option renaming bind_eq_some_iff→qHp,bind_eq_bind→qHs,pure_def→qHy,map_some→qHz
open List renaming length_cons→qHt,length_nil→qHv,map_cons→qHx,cons_append→qHA,getElem?_cons_zero→qHD,nil_append→qHE,map_nil→qHG,length_append→qHH,set_cons_zero→qHI
namespace W
open Go (IntKind BinOp UnOp)
abbrev R:=Option (Ex × St)
abbrev KF:=Call→Nat→Env→List Obj→Nat→R
inductive K where
 | mk (f:KF)
noncomputable def K.run (k:K):KF:=K.rec (motive:=fun _=>KF) (fun f=>f) k
inductive KO where
 | mk (f:Env→V)
noncomputable def KO.run (k:KO):Env→V:=KO.rec (motive:=fun _=>Env→V) (fun f=>f) k
noncomputable def kV (o:O):KO:=O.rec (motive:=fun _=>KO) (fun n=>.mk fun e=>fget n e) (fun x=>.mk fun _=>.d x) (fun i=>.mk fun _=>.fn i [] []) (fun n=>.mk fun e=>qer (fget n e)) (fun _ x=>.mk fun _=>.cp x) o
def V.isBox:V→Bool
 | .box _=>true
 | _=>false
def V.pl:V→Prop
 | .box _=>False
 | .osl _=>False
 | .agg _=>False
 | _=>True
theorem kF {o:O} {e:Env} (h:((kV o).run e).pl):rd e o=(kV o).run e:=by
 cases o with
 | t n=>
  have h:(fget n e).pl:=h
  show qdl n (get n e)=fget n e
  rw [←j0]
  cases hv:fget n e<;>rw [hv] at h<;>first|rfl|exact h.elim
 | mv n=>
  show qer (get n e)=qer (fget n e)
  rw [j0]
 | _=>rfl
inductive OI where
 | no
 | yes (k:IntKind) (n:Int)
noncomputable def vI (v:V):OI:=V.rec (motive_1:=fun _=>OI) (motive_2:=fun _=>OI) (fun x=>D.rec (motive_1:=fun _=>OI) (motive_2:=fun _=>OI) (fun _=>.no) (fun k n=>.yes k n) (fun _=>.no) .no (fun _ _=>.no) (fun _ _=>.no) .no .no .no .no .no (fun _ _ _ _=>.no) x) (fun _=>.no) (fun _=>.no) (fun _ _=>.no) (fun _ _=>.no) (fun _ _=>.no) (fun _=>.no) (fun _ _ _ _=>.no) (fun _ _ _=>.no) (fun _=>.no) (fun _ _ _ _ _=>.no) (fun _ _ _=>.no) (fun _ _=>.no) (fun _ _=>.no) .no .no (fun _ _ _ _=>.no) v
theorem qCi {v:V} {k:IntKind} {n:Int} (h:vI v=.yes k n):v=.d (.i k n):=by
 cases v with
 | d x=>cases x with
  | i k' n'=>have h:OI.yes k' n'=.yes k n:=h;cases h;rfl
  | _=>cases h
 | _=>cases h
inductive OB where
 | no|f|t
noncomputable def vB (v:V):OB:=V.rec (motive_1:=fun _=>OB) (motive_2:=fun _=>OB) (fun x=>D.rec (motive_1:=fun _=>OB) (motive_2:=fun _=>OB) (fun y=>Bool.rec (motive:=fun _=>OB) .f .t y) (fun _ _=>.no) (fun _=>.no) .no (fun _ _=>.no) (fun _ _=>.no) .no .no .no .no .no (fun _ _ _ _=>.no) x) (fun _=>.no) (fun _=>.no) (fun _ _=>.no) (fun _ _=>.no) (fun _ _=>.no) (fun _=>.no) (fun _ _ _ _=>.no) (fun _ _ _=>.no) (fun _=>.no) (fun _ _ _ _ _=>.no) (fun _ _ _=>.no) (fun _ _=>.no) (fun _ _=>.no) .no .no (fun _ _ _ _=>.no) v
theorem qGU {v:V} (h:vB v=.t):v=.d (.b true):=by
 cases v with
 | d x=>cases x with
  | b y=>cases y with
   | true=>rfl
   | false=>cases h
  | _=>cases h
 | _=>cases h
theorem qHc {v:V} (h:vB v=.f):v=.d (.b false):=by
 cases v with
 | d x=>cases x with
  | b y=>cases y with
   | false=>rfl
   | true=>cases h
  | _=>cases h
 | _=>cases h
inductive OP where
 | no
 | p (id off:Nat)
 | l (s off:Nat)
 | c (x:D)
noncomputable def vP (v:V):OP:=V.rec (motive_1:=fun _=>OP) (motive_2:=fun _=>OP) (fun _=>.no) (fun _=>.no) (fun _=>.no) (fun a b=>.p a b) (fun a b=>.l a b) (fun _ _=>.no) (fun x=>.c x) (fun _ _ _ _=>.no) (fun _ _ _=>.no) (fun _=>.no) (fun _ _ _ _ _=>.no) (fun _ _ _=>.no) (fun _ _=>.no) (fun _ _=>.no) .no .no (fun _ _ _ _=>.no) v
theorem qGX {v:V} {a b:Nat} (h:vP v=.p a b):v=.ptr a b:=by
 cases v with
 | ptr c d=>have h:OP.p c d=.p a b:=h;cases h;rfl
 | _=>cases h
theorem qHb {v:V} {a b:Nat} (h:vP v=.l a b):v=.lp a b:=by
 cases v with
 | lp c d=>have h:OP.l c d=.l a b:=h;cases h;rfl
 | _=>cases h
theorem qHh {v:V} {x:D} (h:vP v=.c x):v=.cp x:=by
 cases v with
 | cp y=>have h:OP.c y=.c x:=h;cases h;rfl
 | _=>cases h
inductive OL where
 | no|nil
 | sl (xs:List D)
noncomputable def vL (v:V):OL:=V.rec (motive_1:=fun _=>OL) (motive_2:=fun _=>OL) (fun x=>D.rec (motive_1:=fun _=>OL) (motive_2:=fun _=>OL) (fun _=>.no) (fun _ _=>.no) (fun _=>.no) .nil (fun xs _=>.sl xs) (fun _ _=>.no) .no .no .no .no .no (fun _ _ _ _=>.no) x) (fun _=>.no) (fun _=>.no) (fun _ _=>.no) (fun _ _=>.no) (fun _ _=>.no) (fun _=>.no) (fun _ _ _ _=>.no) (fun _ _ _=>.no) (fun _=>.no) (fun _ _ _ _ _=>.no) (fun _ _ _=>.no) (fun _ _=>.no) (fun _ _=>.no) .no .no (fun _ _ _ _=>.no) v
theorem qEY {v:V} (h:vL v=.nil):v=.d .nil:=by
 cases v with
 | d x=>cases x with
  | nil=>rfl
  | _=>cases h
 | _=>cases h
theorem qGw {v:V} {xs:List D} (h:vL v=.sl xs):v=.d (.sl xs):=by
 cases v with
 | d x=>cases x with
  | sl ys=>have h:OL.sl ys=.sl xs:=h;cases h;rfl
  | _=>cases h
 | _=>cases h
inductive OT where
 | no
 | s (t:List Nat)
noncomputable def vT (v:V):OT:=V.rec (motive_1:=fun _=>OT) (motive_2:=fun _=>OT) (fun x=>D.rec (motive_1:=fun _=>OT) (motive_2:=fun _=>OT) (fun _=>.no) (fun _ _=>.no) (fun t=>.s t) .no (fun _ _=>.no) (fun _ _=>.no) .no .no .no .no .no (fun _ _ _ _=>.no) x) (fun _=>.no) (fun _=>.no) (fun _ _=>.no) (fun _ _=>.no) (fun _ _=>.no) (fun _=>.no) (fun _ _ _ _=>.no) (fun _ _ _=>.no) (fun _=>.no) (fun _ _ _ _ _=>.no) (fun _ _ _=>.no) (fun _ _=>.no) (fun _ _=>.no) .no .no (fun _ _ _ _=>.no) v
theorem qFw {v:V} {t:List Nat} (h:vT v=.s t):v=.d (.s t):=by
 cases v with
 | d x=>cases x with
  | s u=>have h:OT.s u=.s t:=h;cases h;rfl
  | _=>cases h
 | _=>cases h
inductive OU where
 | no
 | t (vs:List V)
noncomputable def vU (v:V):OU:=V.rec (motive_1:=fun _=>OU) (motive_2:=fun _=>OU) (fun _=>.no) (fun _=>.no) (fun _=>.no) (fun _ _=>.no) (fun _ _=>.no) (fun _ _=>.no) (fun _=>.no) (fun _ _ _ _=>.no) (fun _ _ _=>.no) (fun _=>.no) (fun _ _ _ _ _=>.no) (fun _ _ _=>.no) (fun _ _=>.no) (fun vs _=>.t vs) .no .no (fun _ _ _ _=>.no) v
theorem qG9 {v:V} {vs:List V} (h:vU v=.t vs):v=.tup vs:=by
 cases v with
 | tup ws=>have h:OU.t ws=.t vs:=h;cases h;rfl
 | _=>cases h
inductive OF where
 | no
 | f (i:Nat)
noncomputable def qBm (m:Nat) (v:V) (κ:V→R):R:=V.rec (motive_1:=fun _=>R) (motive_2:=fun _=>R) (fun x=>κ (.d x)) (fun xs=>κ (.d (.sl xs))) (fun xs=>κ (.fsl xs)) (fun a b=>κ (.ptr a b)) (fun a b=>κ (.lp a b)) (fun _ _=>κ (.lp m 0)) (fun x=>κ (.cp x)) (fun a b c d=>κ (.rs a b c d)) (fun a b c=>κ (.row a b c)) (fun a=>κ (.map a)) (fun f a b _ _=>κ (.fn f a b)) (fun t x _=>κ (.ifc t x)) (fun cs _=>qbw (qbl (cs.map zh)) κ) (fun vs _=>κ (.tup vs)) (κ .undef) none (fun _ _ _ _=>none) v
theorem qxt (m:Nat) (v:V) (κ:V→R):qBm m v κ=κ (qdl m v):=by
 cases v with
 | agg cs=>exact qaP _ _
 | _=>rfl
noncomputable def qBw (v:V) (κ:V→R):R:=V.rec (motive_1:=fun _=>R) (motive_2:=fun _=>R) (fun x=>κ (.d x)) (fun xs=>κ (.osl xs)) (fun xs=>κ (.fsl xs)) (fun a b=>κ (.ptr a b)) (fun a b=>κ (.lp a b)) (fun _ _=>κ .undef) (fun x=>κ (.cp x)) (fun a b c d=>κ (.rs a b c d)) (fun a b c=>κ (.row a b c)) (fun a=>κ (.map a)) (fun f a b _ _=>κ (.fn f a b)) (fun t x _=>κ (.ifc t x)) (fun cs _=>κ (.agg cs)) (fun vs _=>κ (.tup vs)) (κ .undef) none (fun _ _ _ _=>none) v
theorem qxJ (v:V) (κ:V→R):qBw v κ=κ (qer v):=by cases v<;>rfl
noncomputable def qyC (v:V) (κ:V→R):R:=V.rec (motive_1:=fun _=>R) (motive_2:=fun _=>R) (fun x=>κ (.d x)) (fun xs=>κ (.osl xs)) (fun xs=>κ (.fsl xs)) (fun a b=>κ (.ptr a b)) (fun _ _=>κ .undef) (fun cs _=>κ (.box cs)) (fun x=>κ (.cp x)) (fun a b c d=>κ (.rs a b c d)) (fun a b c=>κ (.row a b c)) (fun a=>κ (.map a)) (fun f a b _ _=>κ (.fn f a b)) (fun t x _=>κ (.ifc t x)) (fun cs _=>κ (.agg cs)) (fun vs _=>κ (.tup vs)) (κ .undef) none (fun _ _ _ _=>none) v
theorem qxl (v:V) (κ:V→R):qyC v κ=κ (match v with | .lp _ _=>.undef|v=>v):=by cases v<;>rfl
noncomputable def qBt (v:V) (κ:V→R):R:=V.rec (motive_1:=fun _=>R) (motive_2:=fun _=>R) (fun x=>κ (.d x)) (fun xs=>κ (.d (.sl xs))) (fun xs=>κ (.fsl xs)) (fun a b=>κ (.ptr a b)) (fun a b=>κ (.lp a b)) (fun _ _=>none) (fun x=>κ (.cp x)) (fun a b c d=>κ (.rs a b c d)) (fun a b c=>κ (.row a b c)) (fun a=>κ (.map a)) (fun f a b _ _=>κ (.fn f a b)) (fun t x _=>κ (.ifc t x)) (fun cs _=>κ (.agg cs)) (fun vs _=>κ (.tup vs)) (κ .undef) none (fun _ _ _ _=>none) v
theorem qtQ {v:V} {κ:V→R} {x:Ex × St} (h:qBt v κ=some x):(zh v).isBox=false∧κ (zh v)=some x:=by
 cases v<;>first|exact ⟨rfl,h⟩|cases h
theorem qlH (cs:List V):(qbl cs).isBox=false:=by unfold qbl;split<;>rfl
noncomputable def qvj (v:V) (κ:V→R):R:=V.rec (motive_1:=fun _=>R) (motive_2:=fun _=>R) (fun x=>κ (.d x)) (fun xs=>κ (.d (.sl xs))) (fun xs=>κ (.fsl xs)) (fun a b=>κ (.ptr a b)) (fun a b=>κ (.lp a b)) (fun _ _=>none) (fun x=>κ (.cp x)) (fun a b c d=>κ (.rs a b c d)) (fun a b c=>κ (.row a b c)) (fun a=>κ (.map a)) (fun f a b _ _=>κ (.fn f a b)) (fun t x _=>κ (.ifc t x)) (fun cs _=>qbw (qbl (cs.map zh)) κ) (fun vs _=>κ (.tup vs)) (κ .undef) none (fun _ _ _ _=>none) v
theorem qjq {v:V} {κ:V→R} {x:Ex × St} (h:qvj v κ=some x):(copy v).isBox=false∧κ (copy v)=some x:=by
 cases v with
 | agg cs=>
  have h:qbw (qbl (cs.map zh)) κ=some x:=h
  rw [qaP] at h
  exact ⟨qlH _,h⟩
 | box cs=>cases h
 | _=>exact ⟨rfl,h⟩
noncomputable def qie (v:V) (z:R) (κ:V→R):R:=V.rec (motive_1:=fun _=>R) (motive_2:=fun _=>R) (fun x=>κ (.d x)) (fun xs=>κ (.osl xs)) (fun xs=>κ (.fsl xs)) (fun a b=>κ (.ptr a b)) (fun a b=>κ (.lp a b)) (fun _ _=>z) (fun x=>κ (.cp x)) (fun a b c d=>κ (.rs a b c d)) (fun a b c=>κ (.row a b c)) (fun a=>κ (.map a)) (fun f a b _ _=>κ (.fn f a b)) (fun t x _=>κ (.ifc t x)) (fun cs _=>κ (.agg cs)) (fun vs _=>κ (.tup vs)) (κ .undef) none (fun _ _ _ _=>none) v
theorem qhR {v:V} {z:R} {κ:V→R} {x:Ex × St} (h:qie v z κ=some x):z=some x∨(v.isBox=false∧κ v=some x):=by
 cases v<;>first|exact .inr ⟨rfl,h⟩|exact .inl h
inductive KR where
 | mk (f:Env→(V→R)→R)
noncomputable def KR.run (k:KR):Env→(V→R)→R:=KR.rec (motive:=fun _=>Env→(V→R)→R) (fun f=>f) k
noncomputable def rdC (o:O):KR:=O.rec (motive:=fun _=>KR) (fun n=>.mk fun e κ=>qBm n (fget n e) κ) (fun x=>.mk fun _ κ=>κ (.d x)) (fun i=>.mk fun _ κ=>κ (.fn i [] [])) (fun n=>.mk fun e κ=>qBw (fget n e) κ) (fun _ x=>.mk fun _ κ=>κ (.cp x)) o
theorem qhu (o:O) (e:Env) (κ:V→R):(rdC o).run e κ=κ (rd e o):=by
 cases o with
 | t n=>exact (qxt n (fget n e) κ).trans (by rw [j0];rfl)
 | mv n=>exact (qxJ (fget n e) κ).trans (by rw [j0];rfl)
 | _=>rfl
inductive KE where
 | mk (f:Env→Env)
noncomputable def KE.run (k:KE):Env→Env:=KE.rec (motive:=fun _=>Env→Env) (fun f=>f) k
noncomputable def spC (o:O) (r:KE):KE:=O.rec (motive:=fun _=>KE) (fun _=>r) (fun _=>r) (fun _=>r) (fun n=>.mk fun e=>r.run ((n,.undef)::e)) (fun _ _=>r) o
noncomputable def spL (l:List O):KE:=List.rec (motive:=fun _=>KE) (.mk fun e=>e) (fun o _ ih=>spC o ih) l
theorem qy7 (l:List O) (e:Env):(spL l).run e=spentAll l e:=by
 induction l generalizing e with
 | nil=>rfl
 | cons o l ih=>
  show (spC o (spL l)).run e=spentAll l (spent o e)
  cases o<;>first|exact ih _|exact ih e
noncomputable def spO (o:O):KE:=spC o (.mk fun e=>e)
theorem qjA (o:O) (e:Env):(spO o).run e=spent o e:=by cases o<;>rfl
inductive KA where
 | mk (f:Env→(List V→R)→R)
noncomputable def KA.run (k:KA):Env→(List V→R)→R:=KA.rec (motive:=fun _=>Env→(List V→R)→R) (fun f=>f) k
noncomputable def qAv (l:List O):KA:=List.rec (motive:=fun _=>KA) (.mk fun _ κ=>κ []) (fun o _ ih=>.mk fun e κ=>(rdC o).run e fun v=>ih.run e fun r=>κ (v::r)) l
theorem qvs (l:List O) (e:Env) (κ:List V→R):(qAv l).run e κ=κ (l.map (rd e)):=by
 induction l generalizing κ with
 | nil=>rfl
 | cons o l ih=>
  show (rdC o).run e (fun v=>(qAv l).run e fun r=>κ (v::r))=_
  rw [qhu,ih];rfl
noncomputable def iadd (a b:Int):Int:=Int.rec (motive:=fun _=>Int) (fun m=>Int.rec (motive:=fun _=>Int) (fun n=>.ofNat (Nat.add m n)) (fun n=>a+b) b) (fun _=>a+b) a
theorem qAo (a b:Int):iadd a b=a+b:=by cases a<;>cases b<;>rfl
noncomputable def imul (a b:Int):Int:=Int.rec (motive:=fun _=>Int) (fun m=>Int.rec (motive:=fun _=>Int) (fun n=>.ofNat (Nat.mul m n)) (fun n=>a * b) b) (fun _=>a * b) a
theorem qAa (a b:Int):imul a b=a * b:=by cases a<;>cases b<;>rfl
noncomputable def isub (a b:Int):Int:=Int.rec (motive:=fun _=>Int) (fun m=>Int.rec (motive:=fun _=>Int) (fun n=>Bool.rec (motive:=fun _=>Int) (a - b) (.ofNat (Nat.sub m n)) (Nat.ble n m)) (fun n=>a - b) b) (fun _=>a - b) a
theorem qzR (a b:Int):isub a b=a - b:=by
 cases a with
 | ofNat m=>cases b with
  | ofNat n=>
   show Bool.rec (motive:=fun _=>Int) (Int.ofNat m - Int.ofNat n) (Int.ofNat (Nat.sub m n)) (Nat.ble n m)=_
   cases h:Nat.ble n m with
   | false=>rfl
   | true=>
    have:=qHF h
    show Int.ofNat (m - n)=Int.ofNat m - Int.ofNat n
    simp only [Int.ofNat_eq_natCast];omega
  | negSucc n=>rfl
 | negSucc m=>rfl
noncomputable def ile (a b:Int):Bool:=Int.rec (motive:=fun _=>Bool) (fun m=>Int.rec (motive:=fun _=>Bool) (fun n=>Nat.ble m n) (fun _=>false) b) (fun m=>Int.rec (motive:=fun _=>Bool) (fun _=>true) (fun n=>Nat.ble n m) b) a
theorem qp0 (a b:Int):ile a b=leI a b:=by cases a<;>cases b<;>rfl
noncomputable def ieq (a b:Int):Bool:=Int.rec (motive:=fun _=>Bool) (fun m=>Int.rec (motive:=fun _=>Bool) (fun n=>qHm m n) (fun _=>false) b) (fun m=>Int.rec (motive:=fun _=>Bool) (fun _=>false) (fun n=>qHm m n) b) a
theorem qyP (a b:Int):ieq a b=eqI a b:=by cases a<;>cases b<;>rfl
noncomputable def kcode (k:IntKind):Nat:=IntKind.rec (motive:=fun _=>Nat) 0 1 2 3 4 5 6 7 k
theorem qr4 (a b:IntKind):qHm (kcode a) (kcode b)=eqK a b:=by cases a<;>cases b<;>rfl
noncomputable def kmax (k:IntKind):Nat:=IntKind.rec (motive:=fun _=>Nat) 127 32767 2147483647 9223372036854775807 255 65535 4294967295 18446744073709551615 k
theorem qAH (k:IntKind):kmax k=ql5 k:=by cases k<;>rfl
noncomputable def iwr (k:IntKind) (z:Int):Int:=Int.rec (motive:=fun _=>Int) (fun a=>Bool.rec (motive:=fun _=>Int) (wr k (.ofNat a)) (.ofNat a) (Nat.ble a (kmax k))) (fun a=>wr k (.negSucc a)) z
theorem qBW (k:IntKind) (z:Int):iwr k z=wr k z:=by
 cases z with
 | ofNat a=>
  show Bool.rec (motive:=fun _=>Int) (wr k (.ofNat a)) (.ofNat a) (Nat.ble a (kmax k))=_
  rw [qAH]
  cases h:Nat.ble a (ql5 k) with
  | false=>rfl
  | true=>simp only [wr,h,cond_true]
 | negSucc a=>rfl
noncomputable def inot (b:Bool):Bool:=Bool.rec (motive:=fun _=>Bool) true false b
theorem qqF (b:Bool):inot b=!b:=by cases b<;>rfl
def qrw (pg:Pg) (r:R) (k:K) (call:Call) (n:Nat) (x:Ex × St):Prop:=(∃s,r=some (.nrm,s)∧k.run call n s.env s.H s.lo=some x)∨(r=some x∧x.1≠.nrm)
def qo2 (r:Option Or) (dst:Option Nat) (k:K) (call:Call) (n:Nat) (x:Ex × St):Prop:=
 ∃q,r=some q∧((q.pan=false∧∃st,put dst q.v q.st=st∧k.run call n st.env st.H st.lo=some x)∨(q.pan=true∧x=(.pan q.v,q.st)))
def ke (f:KF) (op:OpK) (dst:Option Nat) (k:K):Prop:=∀{call:Call} {n:Nat} {e:Env} {H:List Obj} {lo:Nat} {x:Ex × St},f call n e H lo=some x→qo2 (qc call op ⟨e,H,lo⟩) dst k call n x
noncomputable def qev (dst:Option Nat) (v:V) (k:K):KF:=fun call n e H lo=>match put dst v ⟨e,H,lo⟩ with|⟨e,H,lo⟩=>k.run call n e H lo
theorem qfD {dst:Option Nat} {v:V} {same:Bool} {k:K} {call:Call} {n:Nat} {e:Env} {H:List Obj} {lo:Nat} {x:Ex × St} (h:qev dst v k call n e H lo=some x):qo2 (some ⟨false,same,v,⟨e,H,lo⟩⟩) dst k call n x:=by
 refine ⟨_,rfl,.inl ⟨rfl,_,rfl,?_⟩⟩
 exact h
theorem qu {d:Nat} {v:V} {same:Bool} {k:K} {call:Call} {n:Nat} {e:Env} {H:List Obj} {lo:Nat} {x:Ex × St} (hv:v.isBox=false) (h:k.run call n ((d,v)::e) H lo=some x):qo2 (some ⟨false,same,v,⟨e,H,lo⟩⟩) (some d) k call n x:=by
 refine ⟨_,rfl,.inl ⟨rfl,_,rfl,?_⟩⟩
 cases v<;>first|exact h|cases hv
inductive KS where
 | mk (f:Call→St→Option Or)
noncomputable def KS.run (k:KS):Call→St→Option Or:=KS.rec (motive:=fun _=>Call→St→Option Or) (fun f=>f) k
noncomputable def qDc (op:OpK):KS:=
 match op with
 | .mov x=>.mk fun _ st=>qC8 x st
 | .pick c a b=>.mk fun _ st=>qyd c a b st
 | .alloc loc zero=>.mk fun _ st=>qcS loc zero st
 | .box loc x=>.mk fun _ st=>qmr loc x st
 | .build zero parts=>.mk fun _ st=>yL zero parts st
 | .buildSlice zero len parts=>.mk fun _ st=>qV zero len parts st
 | .load mv sl l a=>.mk fun _ st=>qzt mv sl l a st
 | .loadC l a=>.mk fun _ st=>qdp l a st
 | .store sl l a x=>.mk fun _ st=>ya sl l a x st
 | .nilCheck x=>.mk fun _ st=>qlj x st
 | .bin op kd x y=>.mk fun _ st=>qCL op kd x y st
 | .un op x=>.mk fun _ st=>eUn op x st
 | .conv k x=>.mk fun _ st=>qe7 k x st
 | .mkFn f first cap=>.mk fun _ st=>qiW f first cap st
 | .sliceS x lo hi=>.mk fun _ st=>qaa x lo hi st
 | .fieldAddr x off l=>.mk fun _ st=>qjE x off l st
 | .field x off l=>.mk fun _ st=>qdd x off l st
 | .indexAddr x i size arr=>.mk fun _ st=>qjl x i size arr st
 | .index x i=>.mk fun _ st=>quq x i st
 | .lookup kk zero m k c=>.mk fun _ st=>zg kk zero m k c st
 | .mapUpdate kk m k x=>.mk fun _ st=>za kk m k x st
 | .extract x i=>.mk fun _ st=>qm4 x i st
 | .bi b args=>.mk fun _ st=>fBi b args st
 | .call f args=>.mk fun call st=>jy call f args st
 | op=>.mk fun call st=>qc call op st
theorem qvp (op:OpK) (call:Call) (st:St):(qDc op).run call st=qc call op st:=by
 rw [←qvy]
 cases op<;>rfl
noncomputable def qkh (op:OpK):Bool:=
 match op with
 | .appendR _ _ _ _ | .truncR _ _ | .zerosR _ _ _ _ _ | .buildR _ _ _ _ | .rangeM _ | .mkMap | .mkSlice _ _ _ | .alloc _ _ | .box _ _ | .bytesRow _ | .buildRow _ _ _ | .cvtR _=>true
 | _=>false
noncomputable def qnN {α:Type} (b:Bool) (H:List Obj) (k:List Obj→α):α:=Bool.rec (motive:=fun _=>α) (qyN H k) (qm8 H k) b
theorem qpa {α:Type} (b:Bool) (H:List Obj) (k:List Obj→α):qnN b H k=k H:=by cases b;exact qw4 _ _;exact qpb _ _
noncomputable def qDz (dst:Option Nat) (op:OpK) (k:K):KF:=fun call n e H lo=>
 match (qDc op).run call ⟨e,H,lo⟩ with
 | some ⟨pan,same,v,⟨e',H',lo'⟩⟩=>Bool.rec (motive:=fun _=>R)
   (qnJ (makes op) v fun v=>Bool.rec (motive:=fun _=>R) (qnN (qkh op) H' fun H'=>qt lo' fun lo'=>qev dst v k call n e' H' lo') (qev dst v k call n e' H' lo') same)
   (some (.pan v,⟨e',H',lo'⟩)) pan
 | none=>none
theorem qv3 {dst:Option Nat} {op:OpK} {k:K}:ke (qDz dst op k) op dst k:=by
 intro call n e H lo x h
 unfold qDz at h
 rw [qvp] at h
 split at h
 ·rename_i pan same v e' H' lo' hq
  rw [hq]
  cases pan with
  | false=>
   have h:(qnJ (makes op) v fun v=>Bool.rec (motive:=fun _=>R) (qnN (qkh op) H' fun H'=>qt lo' fun lo'=>qev dst v k call n e' H' lo') (qev dst v k call n e' H' lo') same)=some x:=h
   rw [qpx] at h
   have h2:qev dst v k call n e' H' lo'=some x:=by
    cases same with
    | false=>simpa only [qpa,qR] using h
    | true=>exact h
   exact qfD h2
  | true=>
   have h:some (Ex.pan v,(⟨e',H',lo'⟩:St))=some x:=h
   cases h
   exact ⟨_,rfl,.inr ⟨rfl,rfl⟩⟩
 ·cases h
noncomputable def asN (v:V) (z:R) (κ:IntKind→Int→R):R:=OI.rec (motive:=fun _=>R) z κ (vI v)
theorem qez {v:V} {z:R} {κ:IntKind→Int→R} {x:Ex × St} (h:asN v z κ=some x):z=some x∨∃k n,v=.d (.i k n)∧κ k n=some x:=by
 unfold asN at h
 cases hv:vI v with
 | no=>rw [hv] at h;exact .inl h
 | yes k n=>rw [hv] at h;exact .inr ⟨k,n,qCi hv,h⟩
noncomputable def qq5 (d:Nat) (f:Int→Int→Bool) (a b:KO) (g k:K):KF:=fun call n e H lo=>
 asN (a.run e) (g.run call n e H lo) fun ka x=>asN (b.run e) none fun kb y=>Bool.rec (motive:=fun _=>R) none (Bool.rec (motive:=fun _=>R) (k.run call n ((d,.d (.b false))::e) H lo) (k.run call n ((d,.d (.b true))::e) H lo) (f x y)) (qHm (kcode ka) (kcode kb))
noncomputable def qxM (d:Nat) (f:Int→Int→Int) (a b:KO) (g k:K):KF:=fun call n e H lo=>
 asN (a.run e) (g.run call n e H lo) fun ka x=>asN (b.run e) none fun kb y=>Bool.rec (motive:=fun _=>R) none (qm0 (iwr ka (f x y)) fun z=>k.run call n ((d,.d (.i ka z))::e) H lo) (qHm (kcode ka) (kcode kb))
theorem qpu {o:O} {e:Env} {k:IntKind} {n:Int} (h:(kV o).run e=.d (.i k n)):rd e o=.d (.i k n):=by
 rw [kF (by rw [h];trivial),h]
theorem qcz {d:Nat} {f:Int→Int→Bool} {op:BinOp} {x y:O} {g k:K} (hop:qcs op=false) (hf:∀kk a b,qei op kk a b=some (.b (f a b))) (hg:ke g.run (.bin op .num x y) (some d) k):ke (qq5 d f (kV x) (kV y) g k) (.bin op .num x y) (some d) k:=by
 intro call n e H lo z h
 unfold qq5 at h
 rcases qez h with h|⟨ka,a,ha,h⟩
 ·exact hg h
 rcases qez h with h|⟨kb,b,hb,h⟩
 ·cases h
 rw [qr4] at h
 cases hk:eqK ka kb with
 | false=>rw [hk] at h;cases h
 | true=>
  rw [hk] at h
  have he:qc call (.bin op .num x y) ⟨e,H,lo⟩=some ⟨false,true,.d (.b (f a b)),⟨e,H,lo⟩⟩:=by
   simp only [qc,qlr,qpu ha,qpu hb,qa8,hop,hk,cond_true,cond_false,hf,qHz,ok]
  rw [he]
  cases hz:f a b with
  | false=>rw [hz] at h;exact qu rfl h
  | true=>rw [hz] at h;exact qu rfl h
theorem qlk {d:Nat} {f:Int→Int→Int} {op:BinOp} {x y:O} {g k:K} (hop:qcs op=false) (hf:∀kk a b,qei op kk a b=some (.i kk (wr kk (f a b)))) (hg:ke g.run (.bin op .num x y) (some d) k):ke (qxM d f (kV x) (kV y) g k) (.bin op .num x y) (some d) k:=by
 intro call n e H lo z h
 unfold qxM at h
 rcases qez h with h|⟨ka,a,ha,h⟩
 ·exact hg h
 rcases qez h with h|⟨kb,b,hb,h⟩
 ·cases h
 rw [qr4] at h
 cases hk:eqK ka kb with
 | false=>rw [hk] at h;cases h
 | true=>
  rw [hk] at h
  have h:(qm0 (iwr ka (f a b)) fun z=>k.run call n ((d,.d (.i ka z))::e) H lo)=some z:=h
  rw [qlt,qBW] at h
  have he:qc call (.bin op .num x y) ⟨e,H,lo⟩=some ⟨false,true,.d (.i ka (wr ka (f a b))),⟨e,H,lo⟩⟩:=by
   simp only [qc,qlr,qpu ha,qpu hb,qa8,hop,hk,cond_true,cond_false,hf,qHz,ok]
  rw [he]
  exact qu rfl h
noncomputable def gK (dst:Option Nat) (op:OpK) (k:K):K:=.mk (qDz dst op k)
theorem kg {dst:Option Nat} {op:OpK} {k:K}:ke (gK dst op k).run op dst k:=qv3
noncomputable def qCy (d:Nat) (op:BinOp) (kd:Kd) (x y:O) (k:K):K:=
 match op,kd with
 | .add,.num=>.mk (qxM d iadd (kV x) (kV y) (gK (some d) (.bin .add .num x y) k) k)
 | .sub,.num=>.mk (qxM d isub (kV x) (kV y) (gK (some d) (.bin .sub .num x y) k) k)
 | .mul,.num=>.mk (qxM d imul (kV x) (kV y) (gK (some d) (.bin .mul .num x y) k) k)
 | .lss,.num=>.mk (qq5 d (fun a b=>inot (ile b a)) (kV x) (kV y) (gK (some d) (.bin .lss .num x y) k) k)
 | .leq,.num=>.mk (qq5 d ile (kV x) (kV y) (gK (some d) (.bin .leq .num x y) k) k)
 | .gtr,.num=>.mk (qq5 d (fun a b=>inot (ile a b)) (kV x) (kV y) (gK (some d) (.bin .gtr .num x y) k) k)
 | .geq,.num=>.mk (qq5 d (fun a b=>ile b a) (kV x) (kV y) (gK (some d) (.bin .geq .num x y) k) k)
 | .eql,.num=>.mk (qq5 d ieq (kV x) (kV y) (gK (some d) (.bin .eql .num x y) k) k)
 | .neq,.num=>.mk (qq5 d (fun a b=>inot (ieq a b)) (kV x) (kV y) (gK (some d) (.bin .neq .num x y) k) k)
 | op,kd=>gK (some d) (.bin op kd x y) k
theorem qv6 {d:Nat} {op:BinOp} {kd:Kd} {x y:O} {k:K}:ke (qCy d op kd x y k).run (.bin op kd x y) (some d) k:=by
 unfold qCy
 split
 ·exact qlk rfl (fun kk a b=>by rw [qAo];rfl) kg
 ·exact qlk rfl (fun kk a b=>by rw [qzR];rfl) kg
 ·exact qlk rfl (fun kk a b=>by rw [qAa];rfl) kg
 ·exact qcz rfl (fun kk a b=>by rw [qqF,qp0];rfl) kg
 ·exact qcz rfl (fun kk a b=>by rw [qp0];rfl) kg
 ·exact qcz rfl (fun kk a b=>by rw [qqF,qp0];rfl) kg
 ·exact qcz rfl (fun kk a b=>by rw [qp0];rfl) kg
 ·exact qcz rfl (fun kk a b=>by rw [qyP];rfl) kg
 ·exact qcz rfl (fun kk a b=>by rw [qqF,qyP];rfl) kg
 ·exact kg
theorem qtb (m:Nat) (v:V):(qdl m v).isBox=false:=by
 cases v with
 | agg cs=>exact qlH _
 | _=>rfl
theorem qvS (v:V):(qer v).isBox=false:=by cases v<;>rfl
theorem qDG (e:Env) (o:O):(rd e o).isBox=false:=by
 cases o with
 | t n=>exact qtb _ _
 | mv n=>exact qvS _
 | _=>rfl
noncomputable def qB9 (d:Nat) (x:O) (k:K):KF:=fun call n e H lo=>(rdC x).run e fun v=>k.run call n ((d,v)::(spO x).run e) H lo
theorem qv4 {d:Nat} {x:O} {k:K}:ke (qB9 d x k) (.mov x) (some d) k:=by
 intro call n e H lo z h
 unfold qB9 at h
 rw [qhu,qjA] at h
 exact qu (qDG e x) h
noncomputable def asP (v:V) (z:R) (p l:Nat→Nat→R) (c:D→R):R:=OP.rec (motive:=fun _=>R) z p l c (vP v)
theorem qcZ {v:V} {z:R} {p l:Nat→Nat→R} {c:D→R} {x:Ex × St} (h:asP v z p l c=some x):z=some x∨(∃a b,v=.ptr a b∧p a b=some x)∨(∃a b,v=.lp a b∧l a b=some x)∨∃y,v=.cp y∧c y=some x:=by
 unfold asP at h
 cases hv:vP v with
 | no=>rw [hv] at h;exact .inl h
 | p a b=>rw [hv] at h;exact .inr (.inl ⟨a,b,qGX hv,h⟩)
 | l a b=>rw [hv] at h;exact .inr (.inr (.inl ⟨a,b,qHb hv,h⟩))
 | c y=>rw [hv] at h;exact .inr (.inr (.inr ⟨y,qHh hv,h⟩))
noncomputable def qqj (o:Option Obj):Option (List V):=Option.rec (motive:=fun _=>Option (List V)) none (fun ob=>Obj.rec (motive:=fun _=>Option (List V)) (fun cs=>some cs) (fun _=>none) (fun _ _=>none) none (fun _=>none) ob) o
theorem qqY {o:Option Obj} {cs:List V} (h:qqj o=some cs):o=some (.cells cs):=by
 cases o with
 | none=>cases h
 | some ob=>cases ob with
  | cells c=>have h:some c=some cs:=h;cases h;rfl
  | _=>cases h
noncomputable def qtn (o:Option Obj):Option (List V):=Option.rec (motive:=fun _=>Option (List V)) none (fun ob=>Obj.rec (motive:=fun _=>Option (List V)) (fun cs=>some cs) (fun _=>none) (fun _ cs=>some cs) none (fun _=>none) ob) o
theorem qrJ {o:Option Obj} {cs:List V} (h:qtn o=some cs):o=some (.cells cs)∨∃l,o=some (.row l cs):=by
 cases o with
 | none=>cases h
 | some ob=>cases ob with
  | cells c=>have h:some c=some cs:=h;cases h;exact .inl rfl
  | row l c=>have h:some c=some cs:=h;cases h;exact .inr ⟨l,rfl⟩
  | _=>cases h
noncomputable def qst (v:V):Option (List V):=V.rec (motive_1:=fun _=>Option (List V)) (motive_2:=fun _=>Option (List V)) (fun _=>none) (fun _=>none) (fun _=>none) (fun _ _=>none) (fun _ _=>none) (fun cs _=>some cs) (fun _=>none) (fun _ _ _ _=>none) (fun _ _ _=>none) (fun _=>none) (fun _ _ _ _ _=>none) (fun _ _ _=>none) (fun _ _=>none) (fun _ _=>none) none none (fun _ _ _ _=>none) v
theorem qoX {v:V} {cs:List V} (h:qst v=some cs):v=.box cs:=by
 cases v with
 | box c=>have h:some c=some cs:=h;cases h;rfl
 | _=>cases h
noncomputable def orN {α:Type} (o:Option α) (κ:α→R):R:=Option.rec (motive:=fun _=>R) none κ o
theorem kK {α:Type} {o:Option α} {κ:α→R} {x:Ex × St} (h:orN o κ=some x):∃a,o=some a∧κ a=some x:=by
 cases o with
 | none=>cases h
 | some a=>exact ⟨a,rfl,h⟩
noncomputable def orZ {α:Type} (o:Option α) (z:R) (κ:α→R):R:=Option.rec (motive:=fun _=>R) z κ o
theorem qj9 {α:Type} {o:Option α} {z:R} {κ:α→R} {x:Ex × St} (h:orZ o z κ=some x):z=some x∨∃a,o=some a∧κ a=some x:=by
 cases o with
 | none=>exact .inl h
 | some a=>exact .inr ⟨a,rfl,h⟩
noncomputable def qrS (l:L) (off:Nat) (cs:List V) (κ:V→R):R:=L.rec (motive:=fun _=>R) (fun n agg=>Bool.rec (motive:=fun _=>R) (orN (fnth cs off) fun v=>qBt v κ) (orN (V.part off ⟨n,agg⟩ cs) fun v=>qbw v κ) agg) l
theorem qnz {l:L} {off:Nat} {cs:List V} {κ:V→R} {x:Ex × St} (h:qrS l off cs κ=some x):∃v,V.part off l cs=some v∧v.isBox=false∧κ v=some x:=by
 obtain ⟨n,agg⟩:=l
 cases agg with
 | false=>
  obtain ⟨v,h1,h2⟩:=kK (o:=fnth cs off) h
  rw [zF] at h1
  obtain ⟨h3,h4⟩:=qtQ h2
  exact ⟨_,by simp [V.part,h1],h3,h4⟩
 | true=>
  obtain ⟨v,h1,h2⟩:=kK (o:=V.part off ⟨n,true⟩ cs) h
  rw [qaP] at h2
  refine ⟨v,h1,?_,h2⟩
  simp only [V.part,if_true] at h1
  split at h1
  ·cases h1;exact qlH _
  ·cases h1
noncomputable def isAgg (x:D):Option (List D):=D.rec (motive_1:=fun _=>Option (List D)) (motive_2:=fun _=>Option (List D)) (fun _=>none) (fun _ _=>none) (fun _=>none) none (fun _ _=>none) (fun cs _=>some cs) none none none none none (fun _ _ _ _=>none) x
noncomputable def qqe (l:L) (x:D) (κ:V→R):R:=L.rec (motive:=fun _=>R) (fun n agg=>Option.rec (motive:=fun _=>R) (Bool.rec (motive:=fun _=>R) (κ (.d x)) none agg) (fun cs=>Bool.rec (motive:=fun _=>R) none (Bool.rec (motive:=fun _=>R) none (κ (.d x)) (qHm (z6 cs) n)) agg) (isAgg x)) l
theorem qlS {l:L} {x:D} {κ:V→R} {y:Ex × St} {st:St} (h:qqe l x κ=some y):qI l st (.cp x)=some (.d x)∧κ (.d x)=some y:=by
 obtain ⟨n,agg⟩:=l
 cases x with
 | agg cs=>
  cases agg with
  | false=>cases h
  | true=>
   have h:Bool.rec (motive:=fun _=>R) none (κ (.d (.agg cs))) (qHm (z6 cs) n)=some y:=h
   cases hb:qHm (z6 cs) n with
   | false=>rw [hb] at h;cases h
   | true=>
    rw [hb] at h
    have:=qHr hb
    rw [kh] at this
    exact ⟨by simp [qI,this],h⟩
 | _=>
  cases agg with
  | false=>exact ⟨rfl,h⟩
  | true=>cases h
noncomputable def qBq (d:Nat) (sl:Option Nat) (l:L) (a:O) (g k:K):KF:=
 Option.rec (motive:=fun _=>KF)
  (fun call n e H lo=>asP ((kV a).run e) (g.run call n e H lo) (fun id off=>orZ (qtn (fnth H id)) (g.run call n e H lo) fun cs=>qrS l off cs fun v=>k.run call n ((d,v)::e) H lo) (fun _ _=>none) (fun x=>qqe l x fun v=>k.run call n ((d,v)::e) H lo))
  (fun s0 call n e H lo=>asP ((kV a).run e) (g.run call n e H lo) (fun _ _=>none) (fun s off=>Bool.rec (motive:=fun _=>R) none (orN (qst (fget s e)) fun cs=>qrS l off cs fun v=>k.run call n ((d,v)::e) H lo) (qHm s0 s)) (fun _=>none)) sl
theorem qsL {d:Nat} {sl:Option Nat} {l:L} {a:O} {g k:K} (hg:ke g.run (.load false sl l a) (some d) k):ke (qBq d sl l a g k) (.load false sl l a) (some d) k:=by
 intro call n e H lo z h
 cases sl with
 | none=>
  have h:(asP ((kV a).run e) (g.run call n e H lo) (fun id off=>orZ (qtn (fnth H id)) (g.run call n e H lo) fun cs=>qrS l off cs fun v=>k.run call n ((d,v)::e) H lo) (fun _ _=>none) (fun x=>qqe l x fun v=>k.run call n ((d,v)::e) H lo))=some z:=h
  rcases qcZ h with h|⟨id,off,ha,h⟩|⟨_,_,_,h⟩|⟨y,ha,h⟩
  ·exact hg h
  ·rcases qj9 h with h|⟨cs,hc,h⟩
   ·exact hg h
   obtain ⟨v,hv,hb,h⟩:=qnz h
   have ha':rd e a=.ptr id off:=by rw [kF (by rw [ha];trivial),ha]
   have he:qc call (.load false none l a) ⟨e,H,lo⟩=some ⟨false,true,v,⟨e,H,lo⟩⟩:=by
    rcases qrJ hc with hc|⟨l',hc⟩<;>
    ·rw [zF] at hc
     simp only [qc,kS,ha',qC,qI,hc,hv,qHC,cond_false,ok]
   rw [he];exact qu hb h
  ·cases h
  ·obtain ⟨h1,h2⟩:=qlS (st:=⟨e,H,lo⟩) h
   have ha':rd e a=.cp y:=by rw [kF (by rw [ha];trivial),ha]
   have he:qc call (.load false none l a) ⟨e,H,lo⟩=some ⟨false,true,.d y,⟨e,H,lo⟩⟩:=by
    simp only [qc,kS,ha',qC,h1,qHC,cond_false,ok]
   rw [he];exact qu rfl h2
 | some s0=>
  have h:(asP ((kV a).run e) (g.run call n e H lo) (fun _ _=>none) (fun s off=>Bool.rec (motive:=fun _=>R) none (orN (qst (fget s e)) fun cs=>qrS l off cs fun v=>k.run call n ((d,v)::e) H lo) (qHm s0 s)) (fun _=>none))=some z:=h
  rcases qcZ h with h|⟨_,_,_,h⟩|⟨s,off,ha,h⟩|⟨_,_,h⟩
  ·exact hg h
  ·cases h
  ·cases hb:qHm s0 s with
   | false=>rw [hb] at h;cases h
   | true=>
    rw [hb] at h
    obtain ⟨cs,hc,h⟩:=kK (o:=qst (fget s e)) h
    obtain ⟨v,hv,hbx,h⟩:=qnz h
    have hc:=qoX hc
    rw [j0] at hc
    have ha':rd e a=.lp s off:=by rw [kF (by rw [ha];trivial),ha]
    have he:qc call (.load false (some s0) l a) ⟨e,H,lo⟩=some ⟨false,true,v,⟨e,H,lo⟩⟩:=by
     simp only [qc,kS,ha',qC,qI,hc,hv,hb,qHC,cond_false,ok]
    rw [he];exact qu hbx h
  ·cases h
noncomputable def qul (d:Nat) (l:L) (a:O) (k:K):KF:=fun call n e H lo=>asP ((kV a).run e) none (fun _ _=>none) (fun _ _=>none) (fun x=>qqe l x fun v=>k.run call n ((d,v)::e) H lo)
theorem qrO {d:Nat} {l:L} {a:O} {k:K}:ke (qul d l a k) (.loadC l a) (some d) k:=by
 intro call n e H lo z h
 unfold qul at h
 rcases qcZ h with h|⟨_,_,_,h⟩|⟨_,_,_,h⟩|⟨y,ha,h⟩
 ·cases h
 ·cases h
 ·cases h
 ·obtain ⟨h1,h2⟩:=qlS (st:=⟨e,H,lo⟩) h
  have ha':rd e a=.cp y:=by rw [kF (by rw [ha];trivial),ha]
  have he:qc call (.loadC l a) ⟨e,H,lo⟩=some ⟨false,true,.d y,⟨e,H,lo⟩⟩:=by
   simp only [qc,qdp,ha',h1,ok]
  rw [he];exact qu rfl h2
noncomputable def qCe (d:Nat) (a:O) (g k:K):KF:=fun call n e H lo=>
 asP ((kV a).run e) (g.run call n e H lo) (fun id off=>k.run call n ((d,.ptr id off)::e) H lo) (fun s off=>k.run call n ((d,.lp s off)::e) H lo) (fun x=>k.run call n ((d,.cp x)::e) H lo)
theorem qwF {d:Nat} {a:O} {g k:K} (hg:ke g.run (.nilCheck a) (some d) k):ke (qCe d a g k) (.nilCheck a) (some d) k:=by
 intro call n e H lo z h
 unfold qCe at h
 rcases qcZ h with h|⟨id,off,ha,h⟩|⟨s,off,ha,h⟩|⟨y,ha,h⟩
 ·exact hg h
 ·have ha':rd e a=.ptr id off:=(kF (by rw [ha];trivial)).trans ha
  rw [show qc call (.nilCheck a) ⟨e,H,lo⟩=some ⟨false,true,.ptr id off,⟨e,H,lo⟩⟩ by simp only [qc,kB,ha',ok]]
  exact qu rfl h
 ·have ha':rd e a=.lp s off:=(kF (by rw [ha];trivial)).trans ha
  rw [show qc call (.nilCheck a) ⟨e,H,lo⟩=some ⟨false,true,.lp s off,⟨e,H,lo⟩⟩ by simp only [qc,kB,ha',ok]]
  exact qu rfl h
 ·have ha':rd e a=.cp y:=(kF (by rw [ha];trivial)).trans ha
  rw [show qc call (.nilCheck a) ⟨e,H,lo⟩=some ⟨false,true,.cp y,⟨e,H,lo⟩⟩ by simp only [qc,kB,ha',ok]]
  exact qu rfl h
noncomputable def qDH (d:Nat) (a:O) (o:Nat) (l:L) (g k:K):KF:=fun call n e H lo=>
 asP ((kV a).run e) (g.run call n e H lo) (fun id off=>qt (Nat.add off o) fun off=>k.run call n ((d,.ptr id off)::e) H lo) (fun s off=>qt (Nat.add off o) fun off=>k.run call n ((d,.lp s off)::e) H lo) (fun _=>g.run call n e H lo)
theorem qfc {a:Nat} {κ:Nat→R}:qt a κ=κ a:=qR a κ
theorem qv0 {d:Nat} {a:O} {o:Nat} {l:L} {g k:K} (hg:ke g.run (.fieldAddr a o l) (some d) k):ke (qDH d a o l g k) (.fieldAddr a o l) (some d) k:=by
 intro call n e H lo z h
 unfold qDH at h
 rcases qcZ h with h|⟨id,off,ha,h⟩|⟨s,off,ha,h⟩|⟨y,ha,h⟩
 ·exact hg h
 ·rw [qfc] at h
  have ha':rd e a=.ptr id off:=(kF (by rw [ha];trivial)).trans ha
  have he:qc call (.fieldAddr a o l) ⟨e,H,lo⟩=some ⟨false,true,.ptr id (off+o),⟨e,H,lo⟩⟩:=by
   simp only [qc,qU,ha',ok]
  rw [he];exact qu rfl h
 ·rw [qfc] at h
  have ha':rd e a=.lp s off:=(kF (by rw [ha];trivial)).trans ha
  have he:qc call (.fieldAddr a o l) ⟨e,H,lo⟩=some ⟨false,true,.lp s (off+o),⟨e,H,lo⟩⟩:=by
   simp only [qc,qU,ha',ok]
  rw [he];exact qu rfl h
 ·exact hg h
noncomputable def qzb (z:Int) (κ:Nat→R):R:=Int.rec (motive:=fun _=>R) κ (fun _=>none) z
theorem qoH {z:Int} {κ:Nat→R} {x:Ex × St} (h:qzb z κ=some x):∃m:Nat,z=.ofNat m∧κ m=some x:=by
 cases z with
 | ofNat m=>exact ⟨m,rfl,h⟩
 | negSucc m=>cases h
noncomputable def szD (y:D):Nat:=D.rec (motive_1:=fun _=>Nat) (motive_2:=fun _=>Nat) (fun _=>1) (fun _ _=>1) (fun _=>1) 1 (fun _ _=>1) (fun cs _=>z6 cs) 1 1 1 1 1 (fun _ _ _ _=>1) y
theorem qqM (y:D):szD y=y.cells.length:=by
 cases y with
 | agg cs=>exact kh cs
 | _=>rfl
noncomputable def asL (v:V) (z nl:R) (κ:List D→R):R:=OL.rec (motive:=fun _=>R) z nl κ (vL v)
theorem qnK {v:V} {z nl:R} {κ:List D→R} {x:Ex × St} (h:asL v z nl κ=some x):z=some x∨(v=.d .nil∧nl=some x)∨∃xs,v=.d (.sl xs)∧κ xs=some x:=by
 unfold asL at h
 cases hv:vL v with
 | no=>rw [hv] at h;exact .inl h
 | nil=>rw [hv] at h;exact .inr (.inl ⟨qEY hv,h⟩)
 | sl xs=>rw [hv] at h;exact .inr (.inr ⟨xs,qGw hv,h⟩)
noncomputable def asT (v:V) (z:R) (κ:List Nat→R):R:=OT.rec (motive:=fun _=>R) z κ (vT v)
theorem qss {v:V} {z:R} {κ:List Nat→R} {x:Ex × St} (h:asT v z κ=some x):z=some x∨∃t,v=.d (.s t)∧κ t=some x:=by
 unfold asT at h
 cases hv:vT v with
 | no=>rw [hv] at h;exact .inl h
 | s t=>rw [hv] at h;exact .inr ⟨t,qFw hv,h⟩
noncomputable def qDY (d:Nat) (x i:O) (size:Nat) (g k:K):KF:=fun call n e H lo=>
 asL ((kV x).run e) (g.run call n e H lo) none fun xs=>asN ((kV i).run e) none fun _ z=>qzb z fun m=>orN (fnth xs m) fun y=>Bool.rec (motive:=fun _=>R) none (k.run call n ((d,.cp y)::e) H lo) (qHm (szD y) size)
theorem qwj {d:Nat} {x i:O} {size:Nat} {g k:K} (hg:ke g.run (.indexAddr x i size none) (some d) k):ke (qDY d x i size g k) (.indexAddr x i size none) (some d) k:=by
 intro call n e H lo z h
 unfold qDY at h
 rcases qnK h with h|⟨_,h⟩|⟨xs,hx,h⟩
 ·exact hg h
 ·cases h
 rcases qez h with h|⟨kk,w,hi,h⟩
 ·cases h
 obtain ⟨m,rfl,h⟩:=qoH h
 obtain ⟨y,hy,h⟩:=kK h
 rw [zF] at hy
 rw [qqM] at h
 cases hb:qHm y.cells.length size with
 | false=>rw [hb] at h;cases h
 | true=>
  rw [hb] at h
  have hx':rd e x=.d (.sl xs):=(kF (by rw [hx];trivial)).trans hx
  have hl:leI 0 (Int.ofNat m)=true:=by show Nat.ble 0 m=true;exact Nat.ble_eq_true_of_le (Nat.zero_le m)
  have ht:(Int.ofNat m).toNat=m:=rfl
  have he:qc call (.indexAddr x i size none) ⟨e,H,lo⟩=some ⟨false,true,.cp y,⟨e,H,lo⟩⟩:=by
   simp only [qc,qT,zr,hx',qpu hi,hl,ht,hy,hb,cond_true,ok]
  rw [he];exact qu rfl h
noncomputable def qEO (d:Nat) (x i:O) (k:K):KF:=fun call n e H lo=>
 asT ((kV x).run e) none fun t=>asN ((kV i).run e) none fun _ z=>qzb z fun m=>orN (fnth t m) fun y=>k.run call n ((d,.d (.i .u8 (.ofNat y)))::e) H lo
theorem qwH {d:Nat} {x i:O} {k:K}:ke (qEO d x i k) (.index x i) (some d) k:=by
 intro call n e H lo z h
 unfold qEO at h
 rcases qss h with h|⟨t,hx,h⟩
 ·cases h
 rcases qez h with h|⟨kk,w,hi,h⟩
 ·cases h
 obtain ⟨m,rfl,h⟩:=qoH h
 obtain ⟨y,hy,h⟩:=kK h
 rw [zF] at hy
 have hx':rd e x=.d (.s t):=(kF (by rw [hx];trivial)).trans hx
 have hl:leI 0 (Int.ofNat m)=true:=by show Nat.ble 0 m=true;exact Nat.ble_eq_true_of_le (Nat.zero_le m)
 have ht:(Int.ofNat m).toNat=m:=rfl
 have he:qc call (.index x i) ⟨e,H,lo⟩=some ⟨false,true,.d (.i .u8 (.ofNat y)),⟨e,H,lo⟩⟩:=by
  simp only [qc,qc5,hx',qpu hi,hl,ht,hy,cond_true,ok];rfl
 rw [he];exact qu rfl h
noncomputable def asU (v:V) (κ:List V→R):R:=OU.rec (motive:=fun _=>R) none κ (vU v)
theorem qze {v:V} {κ:List V→R} {x:Ex × St} (h:asU v κ=some x):∃vs,v=.tup vs∧κ vs=some x:=by
 unfold asU at h
 cases hv:vU v with
 | no=>rw [hv] at h;cases h
 | t vs=>rw [hv] at h;exact ⟨vs,qG9 hv,h⟩
noncomputable def qE9 (d m i:Nat) (k:K):KF:=fun call n e H lo=>
 asU (fget m e) fun vs=>orN (fnth vs i) fun v=>qvj v fun v=>k.run call n ((d,v)::e) H lo
theorem qwD {d m i:Nat} {k:K}:ke (qE9 d m i k) (.extract (.t m) i) (some d) k:=by
 intro call n e H lo z h
 unfold qE9 at h
 obtain ⟨vs,hv,h⟩:=qze h
 obtain ⟨v,hn,h⟩:=kK h
 obtain ⟨hb,h⟩:=qjq h
 rw [j0] at hv
 rw [zF] at hn
 have he:qc call (.extract (.t m) i) ⟨e,H,lo⟩=some ⟨false,true,copy v,⟨e,H,lo⟩⟩:=by
  simp only [qc,zQ,hv,hn,ok]
 rw [he];exact qu hb h
noncomputable def qyK (d:Nat) (x:O) (k:K):KF:=fun call n e H lo=>
 asT ((kV x).run e) none fun t=>qt (z6 t) fun m=>k.run call n ((d,.d (.i .i64 (.ofNat m)))::e) H lo
theorem qtC {d:Nat} {x:O} {k:K}:ke (qyK d x k) (.bi .lenS [x]) (some d) k:=by
 intro call n e H lo z h
 unfold qyK at h
 rcases qss h with h|⟨t,hx,h⟩
 ·cases h
 rw [qfc,kh] at h
 have hx':rd e x=.d (.s t):=(kF (by rw [hx];trivial)).trans hx
 have he:qc call (.bi .lenS [x]) ⟨e,H,lo⟩=some ⟨false,true,.d (.i .i64 (.ofNat t.length)),⟨e,H,lo⟩⟩:=by
  simp only [qc,eBi,qjj,hx',ok];rfl
 rw [he];exact qu rfl h
noncomputable def qys (d:Nat) (x:O) (g k:K):KF:=fun call n e H lo=>
 asL ((kV x).run e) (g.run call n e H lo) (k.run call n ((d,.d (.i .i64 (.ofNat 0)))::e) H lo) fun xs=>qt (z6 xs) fun m=>k.run call n ((d,.d (.i .i64 (.ofNat m)))::e) H lo
theorem qsM {d:Nat} {x:O} {g k:K} (hg:ke g.run (.bi .lenL [x]) (some d) k):ke (qys d x g k) (.bi .lenL [x]) (some d) k:=by
 intro call n e H lo z h
 unfold qys at h
 rcases qnK h with h|⟨hx,h⟩|⟨xs,hx,h⟩
 ·exact hg h
 ·have hx':rd e x=.d .nil:=(kF (by rw [hx];trivial)).trans hx
  have he:qc call (.bi .lenL [x]) ⟨e,H,lo⟩=some ⟨false,true,.d (.i .i64 (.ofNat 0)),⟨e,H,lo⟩⟩:=by
   simp only [qc,eBi,qbi,qzY,hx',ok];rfl
  rw [he];exact qu rfl h
 ·rw [qfc,kh] at h
  have hx':rd e x=.d (.sl xs):=(kF (by rw [hx];trivial)).trans hx
  have he:qc call (.bi .lenL [x]) ⟨e,H,lo⟩=some ⟨false,true,.d (.i .i64 (.ofNat xs.length)),⟨e,H,lo⟩⟩:=by
   simp only [qc,eBi,qbi,qzY,hx',ok];rfl
  rw [he];exact qu rfl h
noncomputable def asB (v:V) (a b:R):R:=OB.rec (motive:=fun _=>R) none b a (vB v)
theorem qry {v:V} {a b:R} {x:Ex × St} (h:asB v a b=some x):(v=.d (.b true)∧a=some x)∨(v=.d (.b false)∧b=some x):=by
 unfold asB at h
 cases hv:vB v with
 | no=>rw [hv] at h;cases h
 | t=>rw [hv] at h;exact .inl ⟨qGU hv,h⟩
 | f=>rw [hv] at h;exact .inr ⟨qHc hv,h⟩
noncomputable def qDu (d:Nat) (x:O) (k:K):KF:=fun call n e H lo=>
 asB ((kV x).run e) (k.run call n ((d,.d (.b false))::e) H lo) (k.run call n ((d,.d (.b true))::e) H lo)
theorem qwz {d:Nat} {x:O} {k:K}:ke (qDu d x k) (.un .not x) (some d) k:=by
 intro call n e H lo z h
 unfold qDu at h
 rcases qry h with ⟨hx,h⟩|⟨hx,h⟩
 ·have hx':rd e x=.d (.b true):=(kF (by rw [hx];trivial)).trans hx
  rw [show qc call (.un .not x) ⟨e,H,lo⟩=some ⟨false,true,.d (.b false),⟨e,H,lo⟩⟩ by simp only [qc,eUn,hx',unD,ok];rfl]
  exact qu rfl h
 ·have hx':rd e x=.d (.b false):=(kF (by rw [hx];trivial)).trans hx
  rw [show qc call (.un .not x) ⟨e,H,lo⟩=some ⟨false,true,.d (.b true),⟨e,H,lo⟩⟩ by simp only [qc,eUn,hx',unD,ok];rfl]
  exact qu rfl h
noncomputable def qsQ (v:V):Bool:=V.rec (motive_1:=fun _=>Bool) (motive_2:=fun _=>Bool) (fun x=>D.rec (motive_1:=fun _=>Bool) (motive_2:=fun _=>Bool) (fun _=>true) (fun _ _=>true) (fun _=>true) true (fun _ _=>true) (fun _ _=>false) true true true true true (fun _ _ _ _=>true) x) (fun _=>true) (fun _=>true) (fun _ _=>true) (fun _ _=>false) (fun _ _=>false) (fun _=>false) (fun _ _ _ _=>true) (fun _ _ _=>true) (fun _=>true) (fun _ _ _ _ _=>false) (fun _ _ _=>false) (fun _ _=>false) (fun _ _=>false) false false (fun _ _ _ _=>false) v
theorem quS {v:V} (h:qsQ v=true):v.cells=[v]∧V.ones [v]=true:=by
 cases v with
 | d x=>cases x<;>first|exact ⟨rfl,rfl⟩|cases h
 | _=>first|exact ⟨rfl,rfl⟩|cases h
noncomputable def qrB (v:V) (cs:List V):Nat→(List V→R)→R:=
 List.rec (motive:=fun _=>Nat→(List V→R)→R) (fun _ _=>none) (fun c t ih off κ=>Nat.rec (motive:=fun _=>R) (κ (v::t)) (fun m _=>ih m fun t'=>κ (c::t')) off) cs
theorem qiI {v:V}:∀{cs:List V} {off:Nat} {κ:List V→R} {x:Ex × St},qrB v cs off κ=some x→∃cs',qL cs off [v]=some cs'∧κ cs'=some x
 | [],off,κ,x,h=>by cases h
 | c::t,0,κ,x,h=>⟨v::t,by simp [qL],h⟩
 | c::t,m+1,κ,x,h=>by
  have h:qrB v t m (fun t'=>κ (c::t'))=some x:=h
  obtain ⟨cs',h1,h2⟩:=qiI h
  refine ⟨c::cs',?_,h2⟩
  simp only [qL,qHt,qHv] at h1 ⊢
  split at h1
  ·rename_i hl
   cases h1
   rw [if_pos (by omega)]
   simp [Nat.add_right_comm]
  ·cases h1
noncomputable def qjd (o:Obj) (H:List Obj):Nat→(List Obj→R)→R:=
 List.rec (motive:=fun _=>Nat→(List Obj→R)→R) (fun _ _=>none) (fun c t ih off κ=>Nat.rec (motive:=fun _=>R) (κ (o::t)) (fun m _=>ih m fun t'=>κ (c::t')) off) H
theorem qaS {o:Obj}:∀{H:List Obj} {id:Nat} {κ:List Obj→R} {x:Ex × St},qjd o H id κ=some x→κ (qP H id o)=some x
 | [],off,κ,x,h=>by cases h
 | c::t,0,κ,x,h=>h
 | c::t,m+1,κ,x,h=>by
  have h:qjd o t m (fun t'=>κ (c::t'))=some x:=h
  exact qaS (H:=t) (id:=m) (κ:=fun t'=>κ (c::t')) h
noncomputable def qkX (a b:Nat) (κ:Nat→R):R:=Bool.rec (motive:=fun _=>R) (κ b) (κ a) (Nat.ble a b)
theorem qfE (a b:Nat) (κ:Nat→R):qkX a b κ=κ (min a b):=by
 unfold qkX
 cases h:Nat.ble a b with
 | true=>rw [Nat.min_eq_left (qHF h)]
 | false=>
  have:¬a≤b:=fun hc=>by rw [Nat.ble_eq_true_of_le hc] at h;cases h
  rw [Nat.min_eq_right (by omega)]
noncomputable def qyt (g k:K) (v:V) (id off:Nat) (call:Call) (n:Nat) (e:Env) (H:List Obj) (lo:Nat) (e':Env):R:=
 match fnth H id with
 | some (.row l cs)=>Bool.rec (motive:=fun _=>R) (g.run call n e H lo) (qrB v cs off fun cs=>qjd (.row l cs) H id fun H=>qkX lo id fun lo=>k.run call n e' H lo) v.ok
 | _=>g.run call n e H lo
noncomputable def qFn (sl:Option Nat) (a x:O) (g k:K):KF:=
 Option.rec (motive:=fun _=>KF)
  (fun call n e H lo=>asP ((kV a).run e) (g.run call n e H lo) (fun id off=>(rdC x).run e fun v=>Bool.rec (motive:=fun _=>R) (g.run call n e H lo) (orZ (qqj (fnth H id)) (qyt g k v id off call n e H lo ((spO x).run e)) fun cs=>qrB v cs off fun cs=>qjd (.cells cs) H id fun H=>qkX lo id fun lo=>k.run call n ((spO x).run e) H lo) (qsQ v)) (fun _ _=>none) (fun _=>none))
  (fun s0 call n e H lo=>asP ((kV a).run e) (g.run call n e H lo) (fun _ _=>none) (fun s off=>(rdC x).run e fun v=>Bool.rec (motive:=fun _=>R) (g.run call n e H lo) (Bool.rec (motive:=fun _=>R) none (orN (qst (fget s ((spO x).run e))) fun cs=>qrB v cs off fun cs=>k.run call n ((s,.box cs)::(spO x).run e) H lo) (qHm s0 s)) (qsQ v)) (fun _=>none)) sl
theorem qxa {sl:Option Nat} {a x:O} {g k:K} (hg:ke g.run (.store sl ⟨1,false⟩ a x) none k):ke (qFn sl a x g k) (.store sl ⟨1,false⟩ a x) none k:=by
 intro call n e H lo z h
 cases sl with
 | none=>
  have h:(asP ((kV a).run e) (g.run call n e H lo) (fun id off=>(rdC x).run e fun v=>Bool.rec (motive:=fun _=>R) (g.run call n e H lo) (orZ (qqj (fnth H id)) (qyt g k v id off call n e H lo ((spO x).run e)) fun cs=>qrB v cs off fun cs=>qjd (.cells cs) H id fun H=>qkX lo id fun lo=>k.run call n ((spO x).run e) H lo) (qsQ v)) (fun _ _=>none) (fun _=>none))=some z:=h
  rcases qcZ h with h|⟨id,off,ha,h⟩|⟨_,_,_,h⟩|⟨y,ha,h⟩
  ·exact hg h
  ·rw [qhu] at h
   cases ho:qsQ (rd e x) with
   | false=>rw [ho] at h;exact hg h
   | true=>
    rw [ho] at h
    obtain ⟨h1,h2⟩:=quS ho
    rcases qj9 (o:=qqj (fnth H id)) h with h|⟨cs,hc,h⟩
    ·unfold qyt at h
     rw [zF] at h
     split at h
     ·rename_i l' cs hob
      cases hok:(rd e x).ok with
      | false=>rw [hok] at h;exact hg h
      | true=>
       rw [hok] at h
       obtain ⟨cs',hs,h⟩:=qiI h
       have h:=qaS h
       rw [qfE,qjA] at h
       have ha':rd e a=.ptr id off:=(kF (by rw [ha];trivial)).trans ha
       have he:qc call (.store none ⟨1,false⟩ a x) ⟨e,H,lo⟩=some ⟨false,false,.undef,⟨spent x e,qP H id (.row l' cs'),min lo id⟩⟩:=by
        simp only [qc,ya,ha',qC,jX,hob,h1,h2,hs,hok,V.ok.oks,qHC,cond_false,okH,qHt,qHv,qHB,decide_true,qHw,if_true]
       rw [he]
       exact ⟨_,rfl,.inl ⟨rfl,_,rfl,h⟩⟩
     ·exact hg h
    obtain ⟨cs',hs,h⟩:=qiI h
    have h:=qaS h
    rw [qfE,qjA] at h
    have hc:=qqY hc
    rw [zF] at hc
    have ha':rd e a=.ptr id off:=(kF (by rw [ha];trivial)).trans ha
    have he:qc call (.store none ⟨1,false⟩ a x) ⟨e,H,lo⟩=some ⟨false,false,.undef,⟨spent x e,qP H id (.cells cs'),min lo id⟩⟩:=by
     simp only [qc,ya,ha',qC,jX,hc,h1,h2,hs,qHC,cond_false,okH,qHt,qHv,qHB,decide_true,qHw,if_true]
    rw [he]
    exact ⟨_,rfl,.inl ⟨rfl,_,rfl,h⟩⟩
  ·cases h
  ·cases h
 | some s0=>
  have h:(asP ((kV a).run e) (g.run call n e H lo) (fun _ _=>none) (fun s off=>(rdC x).run e fun v=>Bool.rec (motive:=fun _=>R) (g.run call n e H lo) (Bool.rec (motive:=fun _=>R) none (orN (qst (fget s ((spO x).run e))) fun cs=>qrB v cs off fun cs=>k.run call n ((s,.box cs)::(spO x).run e) H lo) (qHm s0 s)) (qsQ v)) (fun _=>none))=some z:=h
  rcases qcZ h with h|⟨_,_,_,h⟩|⟨s,off,ha,h⟩|⟨_,_,h⟩
  ·exact hg h
  ·cases h
  ·rw [qhu] at h
   cases ho:qsQ (rd e x) with
   | false=>rw [ho] at h;exact hg h
   | true=>
    rw [ho] at h
    obtain ⟨h1,h2⟩:=quS ho
    have h:Bool.rec (motive:=fun _=>R) none (orN (qst (fget s ((spO x).run e))) fun cs=>qrB (rd e x) cs off fun cs=>k.run call n ((s,.box cs)::(spO x).run e) H lo) (qHm s0 s)=some z:=h
    cases hb:qHm s0 s with
    | false=>rw [hb] at h;cases h
    | true=>
     rw [hb] at h
     obtain ⟨cs,hc,h⟩:=kK (o:=qst (fget s ((spO x).run e))) h
     obtain ⟨cs',hs,h⟩:=qiI h
     have hc:=qoX hc
     rw [j0,qjA] at hc
     rw [qjA] at h
     have ha':rd e a=.lp s off:=(kF (by rw [ha];trivial)).trans ha
     have he:qc call (.store (some s0) ⟨1,false⟩ a x) ⟨e,H,lo⟩=some ⟨false,true,.undef,⟨(s,.box cs')::spent x e,H,lo⟩⟩:=by
      simp only [qc,ya,ha',qC,jX,hb,hc,h1,h2,hs,qHC,cond_false,ok,qHt,qHv,qHB,decide_true,qHw,if_true]
     rw [he]
     exact ⟨_,rfl,.inl ⟨rfl,_,rfl,h⟩⟩
  ·cases h
noncomputable def qzy {α:Type} (o:α) (l:List α):(List α→R)→R:=List.rec (motive:=fun _=>(List α→R)→R) (fun κ=>κ [o]) (fun x _ ih κ=>ih fun r=>κ (x::r)) l
theorem qrT {α:Type} (o:α) (l:List α) (κ:List α→R):qzy o l κ=κ (l++[o]):=by
 induction l generalizing κ with
 | nil=>rfl
 | cons x l ih=>exact ih _
noncomputable def qEh (d:Nat) (zero:List D) (k:K):KF:=fun call n e H lo=>
 zA (fun v κ=>κ v) (zero.map V.d) fun cs=>qt (z6 H) fun m=>qzy (.cells cs) H fun H=>k.run call n ((d,.ptr m 0)::e) H lo
theorem qv9 {d:Nat} {zero:List D} {k:K}:ke (qEh d zero k) (.alloc false zero) (some d) k:=by
 intro call n e H lo z h
 unfold qEh at h
 rw [qZ (fun v κ=>rfl),qfc,kh,qrT] at h
 exact qu (same:=false) rfl h
noncomputable def qCa (d:Nat) (k:K):KF:=fun call n e H lo=>qt (z6 H) fun m=>qzy (.map []) H fun H=>k.run call n ((d,.map m)::e) H lo
theorem qvD {d:Nat} {k:K}:ke (qCa d k) .mkMap (some d) k:=by
 intro call n e H lo z h
 unfold qCa at h
 rw [qfc,kh,qrT] at h
 exact qu (same:=false) rfl h
noncomputable def qxU (a:List Nat):List Nat→Bool:=List.rec (motive:=fun _=>List Nat→Bool) (fun b=>List.rec (motive:=fun _=>Bool) true (fun _ _ _=>false) b) (fun x _ ih b=>List.rec (motive:=fun _=>Bool) false (fun y t _=>Bool.rec (motive:=fun _=>Bool) false (ih t) (qHm x y)) b) a
theorem quK:∀a b:List Nat,qxU a b=eqT a b
 | [],[]=>rfl
 | [],_::_=>rfl
 | _::_,[]=>rfl
 | x::a,y::b=>by
  show Bool.rec (motive:=fun _=>Bool) false (qxU a b) (qHm x y)=(qHm x y && eqT a b)
  rw [quK a b]
  cases qHm x y<;>rfl
noncomputable def qsy (x w:D):Option Bool:=D.rec (motive_1:=fun _=>Option Bool) (motive_2:=fun _=>Option Bool) (fun y=>D.same (.b y) w) (fun k n=>D.same (.i k n) w) (fun t=>OT.rec (motive:=fun _=>Option Bool) (D.same (.s t) w) (fun u=>some (qxU t u)) (vT (.d w))) none (fun _ _=>none) (fun _ _=>none) none none none none none (fun _ _ _ _=>none) x
theorem qri (x w:D):qsy x w=D.same x w:=by
 cases x with
 | s t=>
  show OT.rec (motive:=fun _=>Option Bool) (D.same (.s t) w) (fun u=>some (qxU t u)) (vT (.d w))=_
  cases h:vT (.d w) with
  | no=>rfl
  | s u=>
   have:=qFw h
   cases this
   show some (qxU t u)=some (eqT t u)
   rw [quK]
 | b z=>rfl
 | i k n=>rfl
 | _=>cases w<;>rfl
noncomputable def qxA (k:D) (es:List (D × V)):Option (Option V):=List.rec (motive:=fun _=>Option (Option V)) (some none) (fun p _ ih=>Option.rec (motive:=fun _=>Option (Option V)) none (fun b=>Bool.rec (motive:=fun _=>Option (Option V)) ih (some (some p.2)) b) (qsy k p.1)) es
theorem qx3 (k:D) (es:List (D × V)):qxA k es=qaZ k es:=by
 induction es with
 | nil=>rfl
 | cons p es ih=>
  obtain ⟨k',v⟩:=p
  show Option.rec (motive:=fun _=>Option (Option V)) none (fun b=>Bool.rec (motive:=fun _=>Option (Option V)) (qxA k es) (some (some v)) b) (qsy k k')=qaZ k ((k',v)::es)
  rw [qri,ih]
  simp only [qaZ]
  cases D.same k k' with
  | none=>rfl
  | some b=>cases b<;>rfl
noncomputable def qxD (k:D) (v:V) (es:List (D × V)):(List (D × V)→R)→R:=List.rec (motive:=fun _=>(List (D × V)→R)→R) (fun κ=>κ [(k,v)]) (fun p t ih κ=>Option.rec (motive:=fun _=>R) none (fun b=>Bool.rec (motive:=fun _=>R) (ih fun r=>κ (p::r)) (κ ((p.1,v)::t)) b) (qsy k p.1)) es
theorem qmU {k:D} {v:V}:∀{es:List (D × V)} {κ:List (D × V)→R} {x:Ex × St},qxD k v es κ=some x→∃es',qhg k v es=some es'∧κ es'=some x
 | [],κ,x,h=>⟨_,rfl,h⟩
 | (k',w)::es,κ,x,h=>by
  have h:Option.rec (motive:=fun _=>R) none (fun b=>Bool.rec (motive:=fun _=>R) (qxD k v es fun r=>κ ((k',w)::r)) (κ ((k',v)::es)) b) (qsy k k')=some x:=h
  rw [qri] at h
  cases hs:D.same k k' with
  | none=>rw [hs] at h;cases h
  | some b=>
   rw [hs] at h
   cases b with
   | true=>exact ⟨_,by simp only [qhg,hs],h⟩
   | false=>
    obtain ⟨es',h1,h2⟩:=qmU (es:=es) h
    exact ⟨_,by simp only [qhg,hs,h1],h2⟩
noncomputable def vD (v:V):Option D:=V.rec (motive_1:=fun _=>Option D) (motive_2:=fun _=>Option D) (fun x=>some x) (fun _=>none) (fun _=>none) (fun _ _=>none) (fun _ _=>none) (fun _ _=>none) (fun _=>none) (fun _ _ _ _=>none) (fun _ _ _=>none) (fun _=>none) (fun _ _ _ _ _=>none) (fun _ _ _=>none) (fun _ _=>none) (fun _ _=>none) none none (fun _ _ _ _=>none) v
theorem qpR {v:V} {x:D} (h:vD v=some x):v=.d x:=by
 cases v with
 | d y=>have h:some y=some x:=h;cases h;rfl
 | _=>cases h
noncomputable def qEE (v:V):Option Nat:=V.rec (motive_1:=fun _=>Option Nat) (motive_2:=fun _=>Option Nat) (fun _=>none) (fun _=>none) (fun _=>none) (fun _ _=>none) (fun _ _=>none) (fun _ _=>none) (fun _=>none) (fun _ _ _ _=>none) (fun _ _ _=>none) (fun a=>some a) (fun _ _ _ _ _=>none) (fun _ _ _=>none) (fun _ _=>none) (fun _ _=>none) none none (fun _ _ _ _=>none) v
theorem qo8 {v:V} {m:Nat} (h:qEE v=some m):v=.map m:=by
 cases v with
 | map y=>have h:some y=some m:=h;cases h;rfl
 | _=>cases h
noncomputable def qEM (o:Option Obj):Option (List (D × V)):=Option.rec (motive:=fun _=>Option (List (D × V))) none (fun ob=>Obj.rec (motive:=fun _=>Option (List (D × V))) (fun _=>none) (fun es=>some es) (fun _ _=>none) none (fun _=>none) ob) o
theorem qpk {o:Option Obj} {es:List (D × V)} (h:qEM o=some es):o=some (.map es):=by
 cases o with
 | none=>cases h
 | some ob=>cases ob with
  | map c=>have h:some c=some es:=h;cases h;rfl
  | _=>cases h
noncomputable def yx (b:Bool) (κ:R):R:=Bool.rec (motive:=fun _=>R) none κ b
theorem qY {b:Bool} {κ:R} {x:Ex × St} (h:yx b κ=some x):b=true∧κ=some x:=by
 cases b with
 | false=>cases h
 | true=>exact ⟨rfl,h⟩
noncomputable def qzv (d:Nat) (kk:Nat) (zero:D) (m q:O) (c:Bool) (g k:K):KF:=fun call n e H lo=>
 orZ (qEE ((kV m).run e)) (g.run call n e H lo) fun id=>orN (vD ((kV q).run e)) fun key=>orN (qEM (fnth H id)) fun es=>yx (kW kk key) (orN (qxA key es) fun r=>
  Option.rec (motive:=fun _=>R) (Bool.rec (motive:=fun _=>R) (k.run call n ((d,.d zero)::e) H lo) (k.run call n ((d,.tup [.d zero,.d (.b false)])::e) H lo) c) (fun v=>Bool.rec (motive:=fun _=>R) (qvj v fun v=>k.run call n ((d,v)::e) H lo) (qvj v fun v=>k.run call n ((d,.tup [v,.d (.b true)])::e) H lo) c) r)
theorem qti {d kk:Nat} {zero:D} {m q:O} {c:Bool} {g k:K} (hg:ke g.run (.lookup kk zero m q c) (some d) k):ke (qzv d kk zero m q c g k) (.lookup kk zero m q c) (some d) k:=by
 intro call n e H lo z h
 unfold qzv at h
 rcases qj9 h with h|⟨id,hm,h⟩
 ·exact hg h
 obtain ⟨key,hq,h⟩:=kK h
 obtain ⟨es,hs,h⟩:=kK h
 obtain ⟨hgk,h⟩:=qY h
 obtain ⟨r,hf,h⟩:=kK h
 have hm:=qo8 hm
 have hq:=qpR hq
 have hs:=qpk hs
 rw [zF] at hs
 rw [qx3] at hf
 have hm':rd e m=.map id:=(kF (by rw [hm];trivial)).trans hm
 have hq':rd e q=.d key:=(kF (by rw [hq];trivial)).trans hq
 cases r with
 | none=>
  have he:qc call (.lookup kk zero m q c) ⟨e,H,lo⟩=some ⟨false,true,bif c then .tup [.d zero,.d (.b false)] else .d zero,⟨e,H,lo⟩⟩:=by
   simp only [qc,zg,hm',hq',hs,hgk,hf,ok,if_true]
  rw [he]
  cases c<;>exact qu rfl h
 | some v=>
  have he:qc call (.lookup kk zero m q c) ⟨e,H,lo⟩=some ⟨false,true,bif c then .tup [copy v,.d (.b true)] else copy v,⟨e,H,lo⟩⟩:=by
   simp only [qc,zg,hm',hq',hs,hgk,hf,ok,if_true]
  rw [he]
  cases c with
  | false=>
   obtain ⟨hb,h⟩:=qjq (v:=v) h
   exact qu hb h
  | true=>
   obtain ⟨hb,h⟩:=qjq (v:=v) h
   exact qu rfl h
noncomputable def okF (v:V):Bool:=V.rec (motive_1:=fun _=>Bool) (motive_2:=fun _=>Bool) (fun _=>true) (fun _=>false) (fun _=>true) (fun _ _=>true) (fun _ _=>false) (fun _ _=>false) (fun _=>false) (fun _ _ _ _=>true) (fun _ _ _=>true) (fun _=>true) (fun f a b _ _=>V.ok (.fn f a b)) (fun t x _=>V.ok (.ifc t x)) (fun cs _=>V.ok (.agg cs)) (fun vs _=>V.ok (.tup vs)) true false (fun _ _ _ _=>false) v
theorem qEn (v:V):okF v=v.ok:=by cases v<;>rfl
noncomputable def qDS (kk:Nat) (m q x:O) (k:K):KF:=fun call n e H lo=>
 orN (qEE ((kV m).run e)) fun id=>orN (vD ((kV q).run e)) fun key=>orN (qEM (fnth H id)) fun es=>(rdC x).run e fun v=>yx (kW kk key) (yx (okF v) (qxD key v es fun es=>qjd (.map es) H id fun H=>qkX lo id fun lo=>k.run call n ((spO x).run e) H lo))
theorem qxc {kk:Nat} {m q x:O} {k:K}:ke (qDS kk m q x k) (.mapUpdate kk m q x) none k:=by
 intro call n e H lo z h
 unfold qDS at h
 obtain ⟨id,hm,h⟩:=kK h
 obtain ⟨key,hq,h⟩:=kK h
 obtain ⟨es,hs,h⟩:=kK h
 rw [qhu] at h
 obtain ⟨hgk,h⟩:=qY h
 obtain ⟨hok,h⟩:=qY h
 obtain ⟨es',hp,h⟩:=qmU h
 have h:=qaS h
 rw [qfE,qjA] at h
 have hm:=qo8 hm
 have hq:=qpR hq
 have hs:=qpk hs
 rw [zF] at hs
 rw [qEn] at hok
 have hm':rd e m=.map id:=(kF (by rw [hm];trivial)).trans hm
 have hq':rd e q=.d key:=(kF (by rw [hq];trivial)).trans hq
 have he:qc call (.mapUpdate kk m q x) ⟨e,H,lo⟩=some ⟨false,false,.undef,⟨spent x e,qP H id (.map es'),min lo id⟩⟩:=by
  simp only [qc,za,hm',hq',hs,hgk,hok,hp,okH,if_true,qHw]
 rw [he]
 exact ⟨_,rfl,.inl ⟨rfl,_,rfl,h⟩⟩
noncomputable def hdF (size:Nat) (l:List D):Bool:=List.rec (motive:=fun _=>Bool) true (fun x _ _=>qHm (szD x) size) l
theorem qtp (size:Nat) (l:List D):hdF size l=qN size l:=by
 cases l with
 | nil=>rfl
 | cons x l=>show qHm (szD x) size=qHm x.cells.length size;rw [qqM]
noncomputable def qnW (bytes n:Nat):Bool:=Bool.rec (motive:=fun _=>Bool) false (Nat.ble n 140737488355328) (Nat.ble (Nat.mul n bytes) 140737488355328)
theorem qoA (bytes n:Nat):qnW bytes n=roomy bytes n:=by
 show Bool.rec (motive:=fun _=>Bool) false (Nat.ble n 140737488355328) (Nat.ble (n * bytes) 140737488355328)=(Nat.ble (n * bytes) 140737488355328 && Nat.ble n 140737488355328)
 cases Nat.ble (n * bytes) 140737488355328<;>rfl
noncomputable def qxW {α:Type} (ys:List α) (l:List α):(List α→R)→R:=List.rec (motive:=fun _=>(List α→R)→R) (fun κ=>κ ys) (fun x _ ih κ=>ih fun r=>κ (x::r)) l
theorem quW {α:Type} (ys l:List α) (κ:List α→R):qxW ys l κ=κ (l++ys):=by
 induction l generalizing κ with
 | nil=>rfl
 | cons x l ih=>exact ih _
inductive OA where
 | no|nil
 | osl (xs:List D)
 | fsl (xs:List D)
noncomputable def vA (v:V):OA:=V.rec (motive_1:=fun _=>OA) (motive_2:=fun _=>OA) (fun x=>D.rec (motive_1:=fun _=>OA) (motive_2:=fun _=>OA) (fun _=>.no) (fun _ _=>.no) (fun _=>.no) .nil (fun _ _=>.no) (fun _ _=>.no) .no .no .no .no .no (fun _ _ _ _=>.no) x) (fun xs=>.osl xs) (fun xs=>.fsl xs) (fun _ _=>.no) (fun _ _=>.no) (fun _ _=>.no) (fun _=>.no) (fun _ _ _ _=>.no) (fun _ _ _=>.no) (fun _=>.no) (fun _ _ _ _ _=>.no) (fun _ _ _=>.no) (fun _ _=>.no) (fun _ _=>.no) .no .no (fun _ _ _ _=>.no) v
theorem qCp {v:V} (h:vA v=.nil):v=.d .nil:=by
 cases v with
 | d x=>cases x with
  | nil=>rfl
  | _=>cases h
 | _=>cases h
theorem qB4 {v:V} {xs:List D} (h:vA v=.osl xs):v=.osl xs:=by
 cases v with
 | osl ys=>have h:OA.osl ys=.osl xs:=h;cases h;rfl
 | d x=>cases x<;>cases h
 | _=>cases h
theorem qCF {v:V} {xs:List D} (h:vA v=.fsl xs):v=.fsl xs:=by
 cases v with
 | fsl ys=>have h:OA.fsl ys=.fsl xs:=h;cases h;rfl
 | d x=>cases x<;>cases h
 | _=>cases h
noncomputable def qFv {α:Type} (l:List α):Bool:=List.rec (motive:=fun _=>Bool) false (fun _ _ _=>true) l
noncomputable def qEa (d size bytes:Nat) (x y:O) (g k:K):KF:=fun call n e H lo=>
 (rdC x).run e fun a=>(rdC y).run e fun b=>asL b (g.run call n e H lo) (g.run call n e H lo) fun ys=>
  OA.rec (motive:=fun _=>R) (g.run call n e H lo)
   (Bool.rec (motive:=fun _=>R) (g.run call n e H lo) (yx (hdF size ys) (yx (qnW bytes (z6 ys)) (k.run call n ((d,.osl ys)::(spO x).run e) H lo))) (qFv ys))
   (fun xs=>yx (hdF size xs) (yx (hdF size ys) (yx (qnW bytes (Nat.add (z6 xs) (z6 ys))) (qxW ys xs fun zs=>k.run call n ((d,.osl zs)::(spO x).run e) H lo))))
   (fun xs=>yx (hdF size xs) (yx (hdF size ys) (yx (qnW bytes (Nat.add (z6 xs) (z6 ys))) (qxW ys xs fun zs=>k.run call n ((d,.osl zs)::(spO x).run e) H lo)))) (vA a)
theorem qwQ {d size bytes:Nat} {x y:O} {g k:K} (hg:ke g.run (.bi (.append size bytes) [x,y]) (some d) k):ke (qEa d size bytes x y g k) (.bi (.append size bytes) [x,y]) (some d) k:=by
 intro call n e H lo z h
 unfold qEa at h
 rw [qhu,qhu] at h
 rcases qnK h with h|⟨_,h⟩|⟨ys,hy,h⟩
 ·exact hg h
 ·exact hg h
 have done:∀{v:V},v.isBox=false→zx size bytes (rd e x) (rd e y)=some v→k.run call n ((d,v)::(spO x).run e) H lo=some z→qo2 (qc call (.bi (.append size bytes) [x,y]) ⟨e,H,lo⟩) (some d) k call n z:=by
  intro v hb hv hk
  have he:qc call (.bi (.append size bytes) [x,y]) ⟨e,H,lo⟩=some ⟨false,true,v,⟨spent x e,H,lo⟩⟩:=by
   simp only [qc,eBi,jd,hv,ok]
  rw [he]
  rw [qjA] at hk
  exact qu hb hk
 cases ha:vA (rd e x) with
 | no=>rw [ha] at h;exact hg h
 | nil=>
  rw [ha] at h
  cases ys with
  | nil=>exact hg h
  | cons y0 ys=>
   obtain ⟨h1,h⟩:=qY (κ:=yx (qnW bytes (z6 (y0::ys))) (k.run call n ((d,.osl (y0::ys))::(spO x).run e) H lo)) h
   obtain ⟨h2,h⟩:=qY h
   rw [qtp] at h1
   rw [qoA,kh] at h2
   exact done rfl (by rw [qCp ha,hy];simp only [zx,h1,h2,qHw,cond_true]) h
 | osl xs=>
  rw [ha] at h
  obtain ⟨h1,h⟩:=qY (b:=hdF size xs) (κ:=yx (hdF size ys) (yx (qnW bytes (Nat.add (z6 xs) (z6 ys))) (qxW ys xs fun zs=>k.run call n ((d,.osl zs)::(spO x).run e) H lo))) h
  obtain ⟨h2,h⟩:=qY h
  obtain ⟨h3,h⟩:=qY h
  rw [qtp] at h1 h2
  rw [qoA,kh,kh] at h3
  have h3:roomy bytes (xs.length+ys.length)=true:=h3
  rw [quW] at h
  exact done rfl (by rw [qB4 ha,hy];simp only [zx,h1,h2,h3,qHw,cond_true]) h
 | fsl xs=>
  rw [ha] at h
  obtain ⟨h1,h⟩:=qY (b:=hdF size xs) (κ:=yx (hdF size ys) (yx (qnW bytes (Nat.add (z6 xs) (z6 ys))) (qxW ys xs fun zs=>k.run call n ((d,.osl zs)::(spO x).run e) H lo))) h
  obtain ⟨h2,h⟩:=qY h
  obtain ⟨h3,h⟩:=qY h
  rw [qtp] at h1 h2
  rw [qoA,kh,kh] at h3
  have h3:roomy bytes (xs.length+ys.length)=true:=h3
  rw [quW] at h
  exact done rfl (by rw [qCF ha,hy];simp only [zx,h1,h2,h3,qHw,cond_true]) h
noncomputable def qfi (l:List D):Bool:=List.rec (motive:=fun _=>Bool) true (fun x _ ih=>D.rec (motive_1:=fun _=>Bool) (motive_2:=fun _=>Bool) (fun _=>ih) (fun _ _=>ih) (fun _=>ih) ih (fun _ _=>ih) (fun _ _=>false) ih ih ih ih ih (fun _ _ _ _=>ih) x) l
theorem qxN (l:List D):qfi l=D.ones l:=by
 induction l with
 | nil=>rfl
 | cons x l ih=>
  show (D.rec (motive_1:=fun _=>Bool) (motive_2:=fun _=>Bool) (fun _=>qfi l) (fun _ _=>qfi l) (fun _=>qfi l) (qfi l) (fun _ _=>qfi l) (fun _ _=>false) (qfi l) (qfi l) (qfi l) (qfi l) (qfi l) (fun _ _ _ _=>qfi l) x)=(x.one && D.ones l)
  rw [ih]
  cases x<;>rfl
noncomputable def wfF (x:D):Bool:=D.rec (motive_1:=fun _=>Bool) (motive_2:=fun _=>Bool) (fun _=>true) (fun _ _=>true) (fun _=>true) true (fun _ _=>true) (fun cs _=>qfi cs) true true true true true (fun _ _ _ _=>true) x
theorem qBT (x:D):wfF x=x.wf:=by
 cases x with
 | agg cs=>exact qxN cs
 | _=>rfl
noncomputable def qFk (d:Nat) (zero:D) (x:O) (g k:K):KF:=fun call n e H lo=>
 (rdC x).run e fun v=>orZ (vD v) (g.run call n e H lo) fun y=>yx (qHm (szD y) (szD zero)) (yx (wfF y) (k.run call n ((d,.osl [y])::e) H lo))
theorem qxf {d:Nat} {zero:D} {x:O} {g k:K} (hg:ke g.run (.buildSlice zero 1 [(0,x)]) (some d) k):ke (qFk d zero x g k) (.buildSlice zero 1 [(0,x)]) (some d) k:=by
 intro call n e H lo z h
 unfold qFk at h
 rw [qhu] at h
 rcases qj9 h with h|⟨y,hv,h⟩
 ·exact hg h
 obtain ⟨h1,h⟩:=qY h
 obtain ⟨h2,h⟩:=qY h
 have hv:=qpR hv
 rw [qqM,qqM] at h1
 have h1:=qHr h1
 rw [qBT] at h2
 have he:qc call (.buildSlice zero 1 [(0,x)]) ⟨e,H,lo⟩=some ⟨false,true,.osl [y],⟨e,H,lo⟩⟩:=by
  simp [qc,qV,hv,qbN,h1,D.wfs,h2,ok,List.replicate]
 rw [he];exact qu rfl h
noncomputable def lvF (v:V):Bool:=V.rec (motive_1:=fun _=>Bool) (motive_2:=fun _=>Bool) (fun _=>true) (fun _=>true) (fun _=>true) (fun _ _=>true) (fun _ _=>false) (fun _ _=>false) (fun _=>false) (fun _ _ _ _=>true) (fun _ _ _=>true) (fun _=>true) (fun f a b _ _=>V.ok (.fn f a b)) (fun t x _=>V.ok (.ifc t x)) (fun cs _=>V.ok (.agg cs)) (fun vs _=>V.ok (.tup vs)) true false (fun _ _ _ _=>false) v
theorem qy2 (v:V):lvF v=v.leaves:=by cases v<;>rfl
noncomputable def lvs (l:List V):Bool:=List.rec (motive:=fun _=>Bool) true (fun v _ ih=>Bool.rec (motive:=fun _=>Bool) false ih (lvF v)) l
theorem qxq (l:List V):lvs l=V.allLeave l:=by
 induction l with
 | nil=>rfl
 | cons v l ih=>
  show Bool.rec (motive:=fun _=>Bool) false (lvs l) (lvF v)=(v.leaves && V.allLeave l)
  rw [ih,qy2]
  cases v.leaves<;>rfl
noncomputable def qE5 (dst:Option Nat) (v:V) (k:K):KF:=fun call n e H lo=>
 Option.rec (motive:=fun _=>R) (k.run call n e H lo) (fun d=>qie v (qev (some d) v k call n e H lo) fun v=>k.run call n ((d,v)::e) H lo) dst
theorem qtt {dst:Option Nat} {v:V} {same:Bool} {k:K} {call:Call} {n:Nat} {e:Env} {H:List Obj} {lo:Nat} {x:Ex × St} (h:qE5 dst v k call n e H lo=some x):qo2 (some ⟨false,same,v,⟨e,H,lo⟩⟩) dst k call n x:=by
 cases dst with
 | none=>exact ⟨_,rfl,.inl ⟨rfl,_,rfl,h⟩⟩
 | some d=>
  have h:qie v (qev (some d) v k call n e H lo) (fun v=>k.run call n ((d,v)::e) H lo)=some x:=h
  rcases qhR h with h|⟨hb,h⟩
  ·exact qfD h
  ·exact qu hb h
noncomputable def qAU (dst:Option Nat) (i:Nat) (args:List O) (k:K):KF:=fun call n e H lo=>
 (qAv args).run e fun vs=>yx (lvs vs) (orN (call i vs H) fun r=>Cr.rec (motive:=fun _=>R) (fun pan same v H' lo'=>qkX lo lo' fun lo=>Bool.rec (motive:=fun _=>R) (qE5 dst v k call n ((spL args).run e) H' lo) (some (.pan v,⟨(spL args).run e,H',lo⟩)) pan) r)
theorem qpt {dst:Option Nat} {i:Nat} {args:List O} {k:K}:ke (qAU dst i args k) (.call (.f i) args) dst k:=by
 intro call n e H lo z h
 unfold qAU at h
 rw [qvs] at h
 obtain ⟨h1,h⟩:=qY h
 obtain ⟨r,hr,h⟩:=kK h
 rw [qxq] at h1
 obtain ⟨pan,same,v,H',lo'⟩:=r
 have h:(qkX lo lo' fun lo=>Bool.rec (motive:=fun _=>R) (qE5 dst v k call n ((spL args).run e) H' lo) (some (.pan v,⟨(spL args).run e,H',lo⟩)) pan)=some z:=h
 rw [qfE,qy7] at h
 have he:qc call (.call (.f i) args) ⟨e,H,lo⟩=some ⟨pan,same,v,⟨spentAll args e,H',min lo lo'⟩⟩:=by
  simp only [qc,jy,rd,qHE,List.append_nil,h1,if_true,hr]
 rw [he]
 cases pan with
 | false=>exact qtt h
 | true=>
  have h:some (Ex.pan v,(⟨spentAll args e,H',min lo lo'⟩:St))=some z:=h
  cases h
  exact ⟨_,rfl,.inr ⟨rfl,rfl⟩⟩
noncomputable def qrr {β γ:Type} (l m:List β) (κ:List β→γ):γ:=List.rec (motive:=fun _=>(List β→γ)→γ) (fun κ=>κ m) (fun x _ ih κ=>ih fun t=>κ (x::t)) l κ
theorem qmG {β γ:Type} (l m:List β) (κ:List β→γ):qrr l m κ=κ (l++m):=by
 induction l generalizing κ with
 | nil=>rfl
 | cons x l ih=>exact ih fun t=>κ (x::t)
noncomputable def qyf (d:Nat) (l:L) (bytes:Nat) (x y:O) (g k:K):KF:=fun call n e H lo=>
 match frd e x with
 | .row id sz len=>match fnth H id with
  | some (.row l' cs)=>match qpN l (frd e y) with
   | some ys=>Bool.rec (motive:=fun _=>R) none (zA (fun v k=>jb v k) (yW ys) fun new=>qrr cs new fun cs=>qjd .dead H id fun H2=>qrr H2 [.row l' cs] fun H3=>qt (z6 H) fun m=>qt (Nat.add len (z6 ys)) fun len2=>qkX lo id fun lo=>k.run call n ((d,.row m sz len2)::e) H3 lo)
     (qHm sz l.n && (qHm (z6 cs) (len * sz) && (qN l.n ys && roomy bytes (len+z6 ys))))
   | none=>none
  | _=>g.run call n e H lo
 | _=>g.run call n e H lo
theorem qsR {d:Nat} {l:L} {bytes:Nat} {x y:O} {g k:K} (hg:ke g.run (.appendR l bytes x y) (some d) k):ke (qyf d l bytes x y g k) (.appendR l bytes x y) (some d) k:=by
 intro call n e H lo z h
 unfold qyf at h
 rw [yb] at h
 split at h
 ·rename_i id sz len hx
  rw [zF] at h
  split at h
  ·rename_i l' cs hob
   rw [yb] at h
   split at h
   ·rename_i ys hys
    rw [kh cs,kh ys,kh H] at h
    cases hb:(qHm sz l.n && (qHm cs.length (len * sz) && (qN l.n ys && roomy bytes (len+ys.length)))) with
    | false=>rw [hb] at h;cases h
    | true=>
     rw [hb] at h
     have h:(zA (fun v k=>jb v k) (yW ys) fun new=>qrr cs new fun cs=>qjd .dead H id fun H2=>qrr H2 [.row l' cs] fun H3=>qt H.length fun m=>qt (Nat.add len ys.length) fun len2=>qkX lo id fun lo=>k.run call n ((d,.row m sz len2)::e) H3 lo)=some z:=h
     rw [qZ ze,qmG] at h
     have h:=qaS h
     rw [qmG,qR,qR,qfE] at h
     have he:qc call (.appendR l bytes x y) ⟨e,H,lo⟩=some ⟨false,false,.row H.length sz (len+ys.length),⟨e,qP H id .dead++[.row l' (cs++yW ys)],min lo id⟩⟩:=by
      simp only [qc,jN,hys,hx,hob,hb,cond_true]
      rfl
     rw [he]
     exact qu rfl h
   ·cases h
  ·exact hg h
 ·exact hg h
noncomputable def fTk {β γ:Type} (l:List β):Nat→(List β→γ)→γ:=List.rec (motive:=fun _=>Nat→(List β→γ)→γ) (fun _ κ=>κ []) (fun x _ ih n κ=>Nat.rec (motive:=fun _=>γ) (κ []) (fun m _=>ih m fun t=>κ (x::t)) n) l
theorem qzr {β γ:Type}:∀(l:List β) (n:Nat) (κ:List β→γ),fTk l n κ=κ (l.take n)
 | [],n,κ=>by simp [fTk]
 | x::l,0,κ=>rfl
 | x::l,n+1,κ=>by
  show fTk l n (fun t=>κ (x::t))=_
  rw [qzr];rfl
theorem qx6 {a b:Int} (h:leI a b=true):a≤b:=by
 cases a<;>cases b<;>simp only [leI] at h
 ·have:=qHF h
  simp only [Int.ofNat_eq_natCast];omega
 ·cases h
 ·simp only [Int.ofNat_eq_natCast,Int.negSucc_eq];omega
 ·have:=qHF h
  simp only [Int.negSucc_eq];omega
noncomputable def qCD (d:Nat) (x hi:O) (g k:K):KF:=fun call n e H lo=>
 match frd e x,frd e hi with
 | .row id sz len,.d (.i _ h)=>match fnth H id with
  | some (.row l cs)=>Bool.rec (motive:=fun _=>R) none (fTk cs (h.toNat * sz) fun cs=>qjd .dead H id fun H2=>qrr H2 [.row l cs] fun H3=>qt (z6 H) fun m=>qt h.toNat fun hn=>qkX lo id fun lo=>k.run call n ((d,.row m sz hn)::e) H3 lo)
    (leI 0 h && (leI h len && qHm (z6 cs) (len * sz)))
  | _=>g.run call n e H lo
 | _,_=>g.run call n e H lo
theorem qxe {d:Nat} {x hi:O} {g k:K} (hg:ke g.run (.truncR x hi) (some d) k):ke (qCD d x hi g k) (.truncR x hi) (some d) k:=by
 intro call n e H lo z h
 unfold qCD at h
 rw [yb,yb] at h
 split at h
 ·rename_i id sz len kk hh hx hhi
  rw [zF] at h
  split at h
  ·rename_i l cs hob
   rw [kh cs,kh H] at h
   cases hb:(leI 0 hh && (leI hh len && qHm cs.length (len * sz))) with
   | false=>rw [hb] at h;cases h
   | true=>
    rw [hb] at h
    have h:(fTk cs (hh.toNat * sz) fun cs=>qjd .dead H id fun H2=>qrr H2 [.row l cs] fun H3=>qt H.length fun m=>qt hh.toNat fun hn=>qkX lo id fun lo=>k.run call n ((d,.row m sz hn)::e) H3 lo)=some z:=h
    rw [qzr] at h
    have h:=qaS h
    rw [qmG,qR,qR,qfE] at h
    simp only [qHo] at hb
    have hc:0≤hh∧hh≤(len:Int)∧cs.length=len * sz:=⟨qx6 hb.1,qx6 hb.2.1,qHr hb.2.2⟩
    have he:qc call (.truncR x hi) ⟨e,H,lo⟩=some ⟨false,false,.row H.length sz hh.toNat,⟨e,qP H id .dead++[.row l (cs.take (hh.toNat * sz))],min lo id⟩⟩:=by
     simp only [qc,qaY,hx,hhi,hob,hc,and_self,if_true]
     rfl
    rw [he]
    exact qu rfl h
  ·exact hg h
 ·exact hg h
noncomputable def qoR (dst:Option Nat) (op:OpK) (k:K):K:=
 match dst with
 | some d=>match op with
  | .mov x=>.mk (qB9 d x k)
  | .bin op kd x y=>qCy d op kd x y k
  | .load false sl l a=>.mk (qBq d sl l a (gK (some d) (.load false sl l a) k) k)
  | .loadC l a=>.mk (qul d l a k)
  | .nilCheck a=>.mk (qCe d a (gK (some d) (.nilCheck a) k) k)
  | .fieldAddr a o l=>.mk (qDH d a o l (gK (some d) (.fieldAddr a o l) k) k)
  | .indexAddr x i size none=>.mk (qDY d x i size (gK (some d) (.indexAddr x i size none) k) k)
  | .index x i=>.mk (qEO d x i k)
  | .extract (.t m) i=>.mk (qE9 d m i k)
  | .bi .lenS [x]=>.mk (qyK d x k)
  | .bi .lenL [x]=>.mk (qys d x (gK (some d) (.bi .lenL [x]) k) k)
  | .bi (.append size bytes) [x,y]=>.mk (qEa d size bytes x y (gK (some d) (.bi (.append size bytes) [x,y]) k) k)
  | .un .not x=>.mk (qDu d x k)
  | .alloc false zero=>.mk (qEh d zero k)
  | .mkMap=>.mk (qCa d k)
  | .lookup kk zero m q c=>.mk (qzv d kk zero m q c (gK (some d) (.lookup kk zero m q c) k) k)
  | .buildSlice zero 1 [(0,x)]=>.mk (qFk d zero x (gK (some d) (.buildSlice zero 1 [(0,x)]) k) k)
  | .call (.f i) args=>.mk (qAU (some d) i args k)
  | .appendR l b x y=>.mk (qyf d l b x y (gK (some d) (.appendR l b x y) k) k)
  | .truncR x hi=>.mk (qCD d x hi (gK (some d) (.truncR x hi) k) k)
  | op=>gK (some d) op k
 | none=>match op with
  | .store sl ⟨1,false⟩ a x=>.mk (qFn sl a x (gK none (.store sl ⟨1,false⟩ a x) k) k)
  | .mapUpdate kk m q x=>.mk (qDS kk m q x k)
  | .call (.f i) args=>.mk (qAU none i args k)
  | op=>gK none op k
theorem qw7 {dst:Option Nat} {op:OpK} {k:K}:ke (qoR dst op k).run op dst k:=by
 unfold qoR
 split
 ·split
  ·exact qv4
  ·exact qv6
  ·exact qsL kg
  ·exact qrO
  ·exact qwF kg
  ·exact qv0 kg
  ·exact qwj kg
  ·exact qwH
  ·exact qwD
  ·exact qtC
  ·exact qsM kg
  ·exact qwQ kg
  ·exact qwz
  ·exact qv9
  ·exact qvD
  ·exact qti kg
  ·exact qxf kg
  ·exact qpt
  ·exact qsR kg
  ·exact qxe kg
  ·exact kg
 ·split
  ·exact qxa kg
  ·exact qxc
  ·exact qpt
  ·exact kg
theorem qjX {dst:Option Nat} {op:OpK} {k:K} {call:Call} {n:Nat} {e:Env} {H:List Obj} {lo:Nat} {z:Ex × St} (h:(qoR dst op k).run call n e H lo=some z):qo2 (qc call op ⟨e,H,lo⟩) dst k call n z:=qw7 h
noncomputable def vG (v:V):Option (Option Bool):=V.rec (motive_1:=fun _=>Option (Option Bool)) (motive_2:=fun _=>Option (Option Bool)) (fun x=>D.rec (motive_1:=fun _=>Option (Option Bool)) (motive_2:=fun _=>Option (Option Bool)) (fun y=>some (some y)) (fun _ _=>none) (fun _=>none) none (fun _ _=>none) (fun _ _=>none) none none none none none (fun _ _ _ _=>none) x) (fun _=>none) (fun _=>none) (fun _ _=>none) (fun _ _=>none) (fun _ _=>none) (fun _=>none) (fun _ _ _ _=>none) (fun _ _ _=>none) (fun _=>none) (fun _ _ _ _ _=>none) (fun _ _ _=>none) (fun _ _=>none) (fun vs _=>List.rec (motive:=fun _=>Option (Option Bool)) (some none) (fun _ _ _=>none) vs) none none (fun _ _ _ _=>none) v
theorem qBo (m:Nat) (w:Bool) (e:Env):wanted (some (m,w)) e=Option.rec (motive:=fun _=>Option Bool) none (fun r=>Option.rec (motive:=fun _=>Option Bool) (some false) (fun z=>some (z == w)) r) (vG (fget m e)):=by
 rw [j0]
 simp only [wanted]
 cases get m e with
 | d x=>cases x<;>rfl
 | tup vs=>cases vs<;>rfl
 | _=>rfl
noncomputable def eqB (a b:Bool):Bool:=Bool.rec (motive:=fun _=>Bool) (Bool.rec (motive:=fun _=>Bool) true false b) b a
theorem qyE (a b:Bool):eqB a b=(a == b):=by cases a<;>cases b<;>rfl
noncomputable def qy6 (o:Op) (k:K):K:=
 match o.g with
 | none=>qoR o.dst o.k k
 | some (m,w)=>.mk fun call n e H lo=>orN (vG (fget m e)) fun r=>Option.rec (motive:=fun _=>R) (qev o.dst (.tup []) k call n e H lo) (fun z=>Bool.rec (motive:=fun _=>R) (qev o.dst (.tup []) k call n e H lo) ((qoR o.dst o.k k).run call n e H lo) (eqB z w)) r
noncomputable def qel (l:List Op) (k:K):K:=List.rec (motive:=fun _=>K) k (fun o _ ih=>qy6 o ih) l
theorem qic {pg:Pg} {call:Call} (hc:qaV call (qf pg)) {n:Nat} {k:K}:∀(l:List Op) {e:Env} {H:List Obj} {lo:Nat} {x:Ex × St},(qel l k).run call n e H lo=some x→qrw pg (qq (qf pg) l ⟨e,H,lo⟩) k call n x
 | [],e,H,lo,x,h=>.inl ⟨⟨e,H,lo⟩,rfl,h⟩
 | o::l,e,H,lo,x,h=>by
  have h:(qy6 o (qel l k)).run call n e H lo=some x:=h
  have key:wanted o.g e=some true→(qoR o.dst o.k (qel l k)).run call n e H lo=some x→qrw pg (qq (qf pg) (o::l) ⟨e,H,lo⟩) k call n x:=by
   intro hw h
   obtain ⟨q,hq,hq2⟩:=qjX h
   have hq':=qeG hc hq
   simp only [qq,hw,hq']
   rcases hq2 with ⟨hp,st,hst,hrun⟩|⟨hp,rfl⟩
   ·rw [hp,hst]
    exact qic hc l hrun
   ·rw [hp]
    exact .inr ⟨rfl,by simp⟩
  have skip:wanted o.g e=some false→qev o.dst (.tup []) (qel l k) call n e H lo=some x→qrw pg (qq (qf pg) (o::l) ⟨e,H,lo⟩) k call n x:=by
   intro hw' h
   obtain ⟨q,hq,hq2⟩:=qfD (same:=true) h
   cases hq
   rcases hq2 with ⟨_,st,hst,hrun⟩|⟨hp,_⟩
   ·simp only [qq,hw']
    rw [hst]
    exact qic hc l hrun
   ·cases hp
  unfold qy6 at h
  split at h
  ·rename_i hg
   exact key (by rw [hg];rfl) h
  ·rename_i m w hg
   have h:(orN (vG (fget m e)) fun r=>Option.rec (motive:=fun _=>R) (qev o.dst (.tup []) (qel l k) call n e H lo) (fun z=>Bool.rec (motive:=fun _=>R) (qev o.dst (.tup []) (qel l k) call n e H lo) ((qoR o.dst o.k (qel l k)).run call n e H lo) (eqB z w)) r)=some x:=h
   obtain ⟨r,hr,h⟩:=kK h
   have hw:=qBo m w e
   rw [hr] at hw
   rw [←hg] at hw
   cases r with
   | none=>exact skip hw h
   | some z=>
    have hw:wanted o.g e=some (z == w):=hw
    rw [←qyE] at hw
    have h:Bool.rec (motive:=fun _=>R) (qev o.dst (.tup []) (qel l k) call n e H lo) ((qoR o.dst o.k (qel l k)).run call n e H lo) (eqB z w)=some x:=h
    cases hb:eqB z w with
    | false=>rw [hb] at h hw;exact skip hw h
    | true=>rw [hb] at h hw;exact key hw h
noncomputable def nbK (k:K):K:=.mk fun call n e H lo=>List.rec (motive:=fun _=>R) none (fun p _ _=>Prod.rec (motive:=fun _=>R) (fun _ v=>qie v none fun _=>k.run call n e H lo) p) e
theorem qr9 {k:K} {call:Call} {n d:Nat} {v:V} {e:Env} {H:List Obj} {lo:Nat} {x:Ex × St} (h:(nbK k).run call n ((d,v)::e) H lo=some x):v.isBox=false∧k.run call n ((d,v)::e) H lo=some x:=by
 have h:qie v none (fun _=>k.run call n ((d,v)::e) H lo)=some x:=h
 rcases qhR h with h|h
 ·cases h
 ·exact h
def qvf:OpK→Bool
 | .mov _ | .pick _ _ _ | .build _ _ | .buildSlice _ _ _ | .load _ _ _ _ | .loadC _ _ | .nilCheck _ | .bin _ _ _ _ | .un _ _ | .conv _ _ | .fieldAddr _ _ _ | .field _ _ _ | .indexAddr _ _ _ _ | .index _ _ | .extract _ _ | .bi _ _ | .store _ _ _ _ | .lookup _ _ _ _ _ | .sliceS _ _ _ | .appendR _ _ _ _=>true
 | _=>false
def qq3:OpK→Bool
 | .load mv _ _ _=>!mv
 | .store _ _ _ _ | .appendR _ _ _ _=>false
 | _=>true
theorem qBr {v:V} {st:St} {q:Or} (h:ok v st=some q):q.pan=false∧q.same=true:=by cases h;exact ⟨rfl,rfl⟩
theorem qFE {v:V} {st:St} {q:Or} (h:okH v st=some q):q.pan=false:=by cases h;rfl
theorem qzZ {op:OpK} (hf:qvf op=true) {call:Call} {st:St} {q:Or} (h:qc call op st=some q):q.pan=false∧(qq3 op=true→q.same=true):=by
 cases op<;>first
  | cases hf;done
  | skip
 all_goals simp only [qc,qoO,qfh,yL,qV,kS,qdp,kB,qlr,eUn,qe7,qU,qdd,qT,z5,zr,qc5,zQ,eBi,qjj,qbi,qkd,jd,ya,zg,qaa,jN,qHn] at h
 all_goals repeat' split at h
 all_goals first
  | (cases h;done)
  | exact ⟨(qBr h).1,fun _=>(qBr h).2⟩
  | exact ⟨qFE h,fun hp=>by first|(cases hp;done)|(simp_all [qq3])⟩
def qvg (f:KF) (op:OpK) (se:Bool) (no:List Nat) (dst:Option Nat) (k:K):Prop:=∀{call:Call} {n:Nat} {e:Env} {H:List Obj} {lo:Nat} {x:Ex × St},f call n e H lo=some x→
 ∃q,qc call op ⟨e,H,lo⟩=some q∧q.pan=false∧(q.same || se)=true∧∃st,jJ (qkY op) no dst q.v q.st=some st∧k.run call n st.env st.H st.lo=some x
theorem qvl {bx:Bool} {d:Nat} {v:V} {st:St} (h:v.isBox=false):jJ bx [] (some d) v st=some {st with env:=(d,v)::st.env}:=by
 cases v<;>first|rfl|cases h
theorem qAp {k:K} {call:Call} {n d:Nat} {v:V} {st:St} {x:Ex × St} (h:(nbK k).run call n (put (some d) v st).env (put (some d) v st).H (put (some d) v st).lo=some x):v.isBox=false∧k.run call n ((d,v)::st.env) st.H st.lo=some x:=by
 cases v with
 | box cs=>
  have h:(nbK k).run call n ((d,.box cs)::qaw d st.env) st.H st.lo=some x:=h
  have:=(qr9 h).1
  cases this
 | _=>exact qr9 h
noncomputable def qBx (dst:Option Nat) (op:OpK) (k:K):K:=
 match dst with
 | some d=>qoR (some d) op (nbK k)
 | none=>qoR none op k
theorem qs5 {dst:Option Nat} {op:OpK} {se:Bool} {k:K} (hf:qvf op=true) (hp:(qq3 op || se)=true):qvg (qBx dst op k).run op se [] dst k:=by
 intro call n e H lo x h
 have key:∀q:Or,qc call op ⟨e,H,lo⟩=some q→q.pan=false∧(q.same || se)=true:=fun q hq=>by
  obtain ⟨h1,h2⟩:=qzZ hf hq
  refine ⟨h1,?_⟩
  rw [Bool.or_eq_true] at hp ⊢
  exact hp.imp h2 id
 cases dst with
 | some d=>
  obtain ⟨q,hq,h2⟩:=qjX (dst:=some d) h
  obtain ⟨h3,h4⟩:=key q hq
  rcases h2 with ⟨_,st,rfl,h5⟩|⟨h5,_⟩
  ·obtain ⟨hb,h6⟩:=qAp h5
   exact ⟨q,hq,h3,h4,_,qvl hb,h6⟩
  ·rw [h3] at h5;cases h5
 | none=>
  obtain ⟨q,hq,h2⟩:=qjX (dst:=none) h
  obtain ⟨h3,h4⟩:=key q hq
  rcases h2 with ⟨_,st,rfl,h5⟩|⟨h5,_⟩
  ·exact ⟨q,hq,h3,h4,_,rfl,h5⟩
  ·rw [h3] at h5;cases h5
noncomputable def qvq (dst:Option Nat) (op:OpK) (se:Bool) (no:List Nat) (k:K):KF:=fun call n e H lo=>
 match (qDc op).run call ⟨e,H,lo⟩ with
 | some ⟨pan,same,v,⟨e',H',lo'⟩⟩=>Bool.rec (motive:=fun _=>R) (Bool.rec (motive:=fun _=>R) none
   (qnJ (makes op) v fun v=>match jJ (qkY op) no dst v ⟨e',H',lo'⟩ with
    | some ⟨e2,H2,lo2⟩=>Bool.rec (motive:=fun _=>R) (qnN (qkh op) H2 fun H2=>qt lo2 fun lo2=>k.run call n e2 H2 lo2) (k.run call n e2 H2 lo2) same
    | none=>none) (same || se)) none pan
 | none=>none
theorem qm9 {dst:Option Nat} {op:OpK} {se:Bool} {no:List Nat} {k:K}:qvg (qvq dst op se no k) op se no dst k:=by
 intro call n e H lo x h
 unfold qvq at h
 rw [qvp] at h
 split at h
 ·rename_i pan same v e' H' lo' hq
  cases pan with
  | true=>cases h
  | false=>
   cases hs:(same || se) with
   | false=>rw [hs] at h;cases h
   | true=>
    rw [hs] at h
    have h:(qnJ (makes op) v fun v=>match jJ (qkY op) no dst v ⟨e',H',lo'⟩ with
     | some ⟨e2,H2,lo2⟩=>Bool.rec (motive:=fun _=>R) (qnN (qkh op) H2 fun H2=>qt lo2 fun lo2=>k.run call n e2 H2 lo2) (k.run call n e2 H2 lo2) same
     | none=>none)=some x:=h
    rw [qpx] at h
    split at h
    ·rename_i e2 H2 lo2 hp
     refine ⟨_,hq,rfl,hs,_,hp,?_⟩
     cases same with
     | false=>simpa only [qpa,qR] using h
     | true=>exact h
    ·cases h
 ·cases h
noncomputable def qEq (d i:Nat) (args:List O) (se:Bool) (k:K):KF:=fun call n e H lo=>
 (qAv args).run e fun vs=>yx (lvs vs) (orN (call i vs H) fun r=>Cr.rec (motive:=fun _=>R) (fun pan same v H' lo'=>qkX lo lo' fun lo=>Bool.rec (motive:=fun _=>R) (Bool.rec (motive:=fun _=>R) none (qie v none fun v=>k.run call n ((d,v)::(spL args).run e) H' lo) (same || se)) none pan) r)
theorem qwS {d i:Nat} {args:List O} {se:Bool} {k:K}:qvg (qEq d i args se k) (.call (.f i) args) se [] (some d) k:=by
 intro call n e H lo z h
 unfold qEq at h
 rw [qvs] at h
 obtain ⟨h1,h⟩:=qY h
 obtain ⟨r,hr,h⟩:=kK h
 rw [qxq] at h1
 obtain ⟨pan,same,v,H',lo'⟩:=r
 have h:(qkX lo lo' fun lo=>Bool.rec (motive:=fun _=>R) (Bool.rec (motive:=fun _=>R) none (qie v none fun v=>k.run call n ((d,v)::(spL args).run e) H' lo) (same || se)) none pan)=some z:=h
 rw [qfE,qy7] at h
 cases pan with
 | true=>cases h
 | false=>
  cases hs:(same || se) with
  | false=>rw [hs] at h;cases h
  | true=>
   rw [hs] at h
   have h:qie v none (fun v=>k.run call n ((d,v)::spentAll args e) H' (min lo lo'))=some z:=h
   rcases qhR h with h|⟨hb,h⟩
   ·cases h
   ·have he:qc call (.call (.f i) args) ⟨e,H,lo⟩=some ⟨false,same,v,⟨spentAll args e,H',min lo lo'⟩⟩:=by
     simp only [qc,jy,rd,qHE,List.append_nil,h1,if_true,hr]
    exact ⟨_,he,rfl,hs,_,qvl hb,h⟩
noncomputable def qsH (dst:Option Nat) (op:OpK) (se:Bool) (no:List Nat) (k:K):K:=
 match no,op,dst with
 | [],.call (.f i) args,some d=>.mk (qEq d i args se k)
 | [],op,dst=>Bool.rec (motive:=fun _=>K) (.mk (qvq dst op se [] k)) (qBx dst op k) (qvf op && (qq3 op || se))
 | no,op,dst=>.mk (qvq dst op se no k)
theorem qvY {dst:Option Nat} {op:OpK} {se:Bool} {no:List Nat} {k:K}:qvg (qsH dst op se no k).run op se no dst k:=by
 unfold qsH
 split
 ·exact qwS
 ·cases hb:(qvf op && (qq3 op || se)) with
  | false=>exact qm9
  | true=>
   rw [qHo] at hb
   exact qs5 hb.1 hb.2
 ·exact qm9
noncomputable def qqh (l:List (Op × Bool × List Nat)) (k:K):K:=List.rec (motive:=fun _=>K) k (fun p _ ih=>match p with
 | (⟨dst,op,none⟩,se,no)=>qsH dst op se no ih
 | (⟨dst,op,some (m,w)⟩,se,no)=>.mk fun call n e H lo=>orN (vG (fget m e)) fun r=>Option.rec (motive:=fun _=>R) (qev dst (.tup []) ih call n e H lo) (fun z=>Bool.rec (motive:=fun _=>R) (qev dst (.tup []) ih call n e H lo) ((qsH dst op se no ih).run call n e H lo) (eqB z w)) r) l
theorem qlc {pg:Pg} {call:Call} (hc:qaV call (qf pg)) {n:Nat} {k:K}:∀(l:List (Op × Bool × List Nat)) {e:Env} {H:List Obj} {lo:Nat} {x:Ex × St},(qqh l k).run call n e H lo=some x→qrw pg (qz (qf pg) l ⟨e,H,lo⟩) k call n x
 | [],e,H,lo,x,h=>.inl ⟨⟨e,H,lo⟩,rfl,h⟩
 | (⟨dst,op,g⟩,se,no)::l,e,H,lo,x,h=>by
  have key:wanted g e=some true→(qsH dst op se no (qqh l k)).run call n e H lo=some x→qrw pg (qz (qf pg) ((⟨dst,op,g⟩,se,no)::l) ⟨e,H,lo⟩) k call n x:=by
   intro hw h
   obtain ⟨q,hq,hp,hs,st,hst,hrun⟩:=qvY h
   have hq':=qeG hc hq
   simp only [qz,hw,hq',hp,hs,hst,qHC,Bool.or_self,cond_false]
   exact qlc hc l hrun
  have skip:wanted g e=some false→qev dst (.tup []) (qqh l k) call n e H lo=some x→qrw pg (qz (qf pg) ((⟨dst,op,g⟩,se,no)::l) ⟨e,H,lo⟩) k call n x:=by
   intro hw' h
   obtain ⟨q,hq,hq2⟩:=qfD (same:=true) h
   cases hq
   rcases hq2 with ⟨_,st,hst,hrun⟩|⟨hp,_⟩
   ·simp only [qz,hw']
    rw [hst]
    exact qlc hc l hrun
   ·cases hp
  cases g with
  | none=>exact key rfl h
  | some mw=>
   obtain ⟨m,w⟩:=mw
   have h:(orN (vG (fget m e)) fun r=>Option.rec (motive:=fun _=>R) (qev dst (.tup []) (qqh l k) call n e H lo) (fun z=>Bool.rec (motive:=fun _=>R) (qev dst (.tup []) (qqh l k) call n e H lo) ((qsH dst op se no (qqh l k)).run call n e H lo) (eqB z w)) r)=some x:=h
   obtain ⟨r,hr,h⟩:=kK h
   have hw:=qBo m w e
   rw [hr] at hw
   cases r with
   | none=>exact skip hw h
   | some z=>
    have hw:wanted (some (m,w)) e=some (z == w):=hw
    rw [←qyE] at hw
    have h:Bool.rec (motive:=fun _=>R) (qev dst (.tup []) (qqh l k) call n e H lo) ((qsH dst op se no (qqh l k)).run call n e H lo) (eqB z w)=some x:=h
    cases hb:eqB z w with
    | false=>rw [hb] at h hw;exact skip hw h
    | true=>rw [hb] at h hw;exact key hw h
noncomputable def qdH:K:=.mk fun _ _ e H lo=>some (.nrm,⟨e,H,lo⟩)
noncomputable def frest (live:List Nat) (e:Env) (κ:Env→R):R:=
 List.rec (motive:=fun _=>(Env→R)→R) (fun κ=>κ []) (fun n _ ih κ=>qyC (fget n e) fun v=>ih fun r=>κ ((n,v)::r)) live κ
theorem qk7 (live:List Nat) (e:Env) (κ:Env→R):frest live e κ=κ (restrict live e):=by
 induction live generalizing κ with
 | nil=>rfl
 | cons n l ih=>
  show qyC (fget n e) (fun v=>frest l e fun r=>κ ((n,v)::r))=_
  rw [qxl,ih,j0]
  rfl
noncomputable def onX (r:R) (fn:Env→List Obj→Nat→R) (fx:Nat→Env→List Obj→Nat→R):R:=
 Option.rec (motive:=fun _=>R) none (fun p=>Prod.rec (motive:=fun _=>R) (fun ex st=>St.rec (motive:=fun _=>R) (fun e H lo=>Ex.rec (motive:=fun _=>R) (fn e H lo) (fun j=>fx j e H lo) (some (.ret,⟨e,H,lo⟩)) (fun v=>some (.pan v,⟨e,H,lo⟩)) ex) st) p) r
noncomputable def qBg (id:Nat) (live:List Nat) (k:K) (call:Call) (n:Nat) (r:R):R:=
 onX r (fun e H lo=>frest live e fun e=>k.run call n e H lo) fun j e H lo=>Bool.rec (motive:=fun _=>R) (some (.exit j,⟨e,H,lo⟩)) (frest live e fun e=>k.run call n e H lo) (qHm j id)
noncomputable def qva (live:List Nat) (a:K) (call:Call) (n:Nat):Env→List Obj→Nat→R:=
 Nat.rec (motive:=fun _=>Env→List Obj→Nat→R) (fun _ _ _=>none) (fun m ih e H lo=>frest live e fun e=>onX (a.run call m e H lo) ih fun j e H lo=>some (.exit j,⟨e,H,lo⟩)) n
noncomputable def qjQ (c:C):K→K:=
 C.rec (motive:=fun _=>K→K) (fun k=>k) (fun l k=>qel l k) (fun l k=>qqh l k)
  (fun _ _ da db k=>da (db k)) (fun o _ _ da db k=>.mk fun call n e H lo=>asB ((kV o).run e) ((da k).run call n e H lo) ((db k).run call n e H lo))
  (fun id live _ da k=>.mk fun call n e H lo=>qBg id live k call n ((da qdH).run call n e H lo))
  (fun live _ da _=>.mk fun call n e H lo=>qva live (da qdH) call n e H lo)
  (fun id _=>.mk fun _ _ e H lo=>some (.exit id,⟨e,H,lo⟩)) (fun _=>.mk fun _ _ e H lo=>some (.ret,⟨e,H,lo⟩)) (fun _=>.mk fun _ _ _ _ _=>none)
  (fun k l f p0 p1 live _ _ da db kk=>.mk fun call n e H lo=>match frd e f with
   | .fn k' [] [c]=>Bool.rec (motive:=fun _=>R) none (match yR c H lo with
    | some m=>zA (fun p k=>jb p.2 fun v=>k (p.1,v)) (jk live e) fun base=>qt m fun m=>match rounds (fun st=>(da qdH).run call n st.env st.H st.lo) (fun st=>(db qdH).run call n st.env st.H st.lo) l c p0 p1 base m H lo with
     | some (.nrm,⟨e,H,lo⟩)=>kk.run call n e H lo
     | r=>r
    | none=>none) (qHm k' k && c.ok)
   | _=>none)
  (fun k f live kk=>.mk fun call n e H lo=>match frd e f with
   | .fn k' [] cap=>Bool.rec (motive:=fun _=>R) none (match call k (.undef::cap) H with
    | some r=>Bool.rec (motive:=fun _=>R) (frest live e fun e=>qm8 r.H fun H=>qt (min lo r.lo) fun lo=>kk.run call n e H lo) none r.pan
    | none=>none) (qHm k' k && V.ok.oks cap)
   | _=>none) c
theorem qly {pg:Pg} {r:R} {call:Call} {n:Nat} {x:Ex × St} (h:qrw pg r qdH call n x):r=some x:=by
 rcases h with ⟨s,h1,h2⟩|⟨h1,_⟩
 ·have h2:some (Ex.nrm,(⟨s.env,s.H,s.lo⟩:St))=some x:=h2
  cases h2
  exact h1
 ·exact h1
theorem qvA {pg:Pg} {live:List Nat} {a:C} {st:St}:exL pg (.loop live a) st=(match exL pg a {st with env:=restrict live st.env} with|some (.nrm,st')=>exL pg (.loop live a) st'|r=>r):=by rw [zN];rfl
theorem qos {pg:Pg} {live:List Nat} {a:C} {da:K} {call:Call} (ih:∀(n:Nat) (e:Env) (H:List Obj) (lo:Nat) (x:Ex × St),da.run call n e H lo=some x→exL pg a ⟨e,H,lo⟩=some x) :
  ∀(n:Nat) {e:Env} {H:List Obj} {lo:Nat} {x:Ex × St},qva live da call n e H lo=some x→exL pg (.loop live a) ⟨e,H,lo⟩=some x∧x.1≠.nrm
 | 0,e,H,lo,x,h=>by cases h
 | n+1,e,H,lo,x,h=>by
  have h:(frest live e fun e=>onX (da.run call n e H lo) (qva live da call n) fun j e H lo=>some (.exit j,⟨e,H,lo⟩))=some x:=h
  rw [qk7] at h
  rw [qvA]
  cases hq:da.run call n (restrict live e) H lo with
  | none=>rw [hq] at h;cases h
  | some y=>
   have hy:=ih n _ _ _ _ hq
   obtain ⟨ex,st⟩:=y
   rw [hq] at h
   show (match exL pg a ⟨restrict live e,H,lo⟩ with|some (.nrm,st')=>exL pg (.loop live a) st'|r=>r)=some x∧_
   rw [hy]
   cases ex with
   | nrm=>exact qos ih n h
   | exit id=>cases h;exact ⟨rfl,by simp⟩
   | ret=>cases h;exact ⟨rfl,by simp⟩
   | pan v=>cases h;exact ⟨rfl,by simp⟩
theorem jp {pg:Pg} {call:Call} (hc:qaV call (qf pg)):∀(c:C) (k:K) (n:Nat) (e:Env) (H:List Obj) (lo:Nat) (x:Ex × St),(qjQ c k).run call n e H lo=some x→qrw pg (exL pg c ⟨e,H,lo⟩) k call n x
 | .skip,k,n,e,H,lo,x,h=>.inl ⟨⟨e,H,lo⟩,by rw [zN];rfl,h⟩
 | .ops l,k,n,e,H,lo,x,h=>by
  have:=qic hc l h
  rwa [show exL pg (.ops l) ⟨e,H,lo⟩=qq (qf pg) l ⟨e,H,lo⟩ by rw [zN];rfl]
 | .opsD l,k,n,e,H,lo,x,h=>by
  have:=qlc hc l h
  rwa [show exL pg (.opsD l) ⟨e,H,lo⟩=qz (qf pg) l ⟨e,H,lo⟩ by rw [zN];rfl]
 | .seq a b,k,n,e,H,lo,x,h=>by
  have ha:=jp hc a (qjQ b k) n e H lo x h
  rw [show exL pg (.seq a b) ⟨e,H,lo⟩=(match exL pg a ⟨e,H,lo⟩ with|some (.nrm,st')=>exL pg b st'|r=>r) by rw [zN];rfl]
  rcases ha with ⟨s,h1,h2⟩|⟨h1,h2⟩
  ·rw [h1]
   exact jp hc b k n s.env s.H s.lo x h2
  ·rw [h1]
   obtain ⟨ex,st⟩:=x
   cases ex with
   | nrm=>exact absurd rfl h2
   | _=>exact .inr ⟨rfl,h2⟩
 | .cond o a b,k,n,e,H,lo,x,h=>by
  have h:asB ((kV o).run e) ((qjQ a k).run call n e H lo) ((qjQ b k).run call n e H lo)=some x:=h
  rw [show exL pg (.cond o a b) ⟨e,H,lo⟩=(match rd e o with | .d (.b true)=>exL pg a ⟨e,H,lo⟩ | .d (.b false)=>exL pg b ⟨e,H,lo⟩|_=>none) by rw [zN];rfl]
  rcases qry h with ⟨hx,h⟩|⟨hx,h⟩
  ·have hx':rd e o=.d (.b true):=(kF (by rw [hx];trivial)).trans hx
   rw [hx'];exact jp hc a k n e H lo x h
  ·have hx':rd e o=.d (.b false):=(kF (by rw [hx];trivial)).trans hx
   rw [hx'];exact jp hc b k n e H lo x h
 | .block id live a,k,n,e,H,lo,x,h=>by
  have h:qBg id live k call n ((qjQ a qdH).run call n e H lo)=some x:=h
  rw [show exL pg (.block id live a) ⟨e,H,lo⟩=(match exL pg a ⟨e,H,lo⟩ with
   | some (.nrm,st')=>some (.nrm,{st' with env:=restrict live st'.env})
   | some (.exit j,st')=>bif qHm j id then some (.nrm,{st' with env:=restrict live st'.env}) else some (.exit j,st')
   | r=>r) by rw [zN];rfl]
  cases hq:(qjQ a qdH).run call n e H lo with
  | none=>rw [hq] at h;cases h
  | some y=>
   have hy:=qly (jp hc a qdH n e H lo y hq)
   rw [hq] at h
   rw [hy]
   obtain ⟨ex,e',H',lo'⟩:=y
   cases ex with
   | nrm=>
    have h:(frest live e' fun e=>k.run call n e H' lo')=some x:=h
    rw [qk7] at h
    exact .inl ⟨_,rfl,h⟩
   | exit j=>
    have h:Bool.rec (motive:=fun _=>R) (some (.exit j,⟨e',H',lo'⟩)) (frest live e' fun e=>k.run call n e H' lo') (qHm j id)=some x:=h
    cases hb:qHm j id with
    | true=>
     rw [hb] at h
     have h:(frest live e' fun e=>k.run call n e H' lo')=some x:=h
     rw [qk7] at h
     exact .inl ⟨⟨restrict live e',H',lo'⟩,by simp only [hb,cond_true],h⟩
    | false=>
     rw [hb] at h
     have h:some (Ex.exit j,(⟨e',H',lo'⟩:St))=some x:=h
     cases h
     exact .inr ⟨by simp only [hb,cond_false],by simp⟩
   | ret=>cases h;exact .inr ⟨rfl,by simp⟩
   | pan v=>cases h;exact .inr ⟨rfl,by simp⟩
 | .loop live a,k,n,e,H,lo,x,h=>by
  have h:qva live (qjQ a qdH) call n e H lo=some x:=h
  exact .inr (qos (fun n e H lo x h=>qly (jp hc a qdH n e H lo x h)) n h)
 | .exit id,k,n,e,H,lo,x,h=>by
  have h:some (Ex.exit id,(⟨e,H,lo⟩:St))=some x:=h
  cases h
  exact .inr ⟨by rw [zN];rfl,by simp⟩
 | .ret,k,n,e,H,lo,x,h=>by
  have h:some (Ex.ret,(⟨e,H,lo⟩:St))=some x:=h
  cases h
  exact .inr ⟨by rw [zN];rfl,by simp⟩
 | .stuck,k,n,e,H,lo,x,h=>by
  have h:none=some x:=h
  cases h
 | .rangeB k l f p0 p1 live a b,kk,n,e,H,lo,x,h=>by
  have h:(match frd e f with
   | .fn k' [] [c]=>Bool.rec (motive:=fun _=>R) none (match yR c H lo with
    | some m=>zA (fun (p:Nat × V) k=>jb p.2 fun v=>k (p.1,v)) (jk live e) fun base=>qt m fun m=>match rounds (fun st=>(qjQ a qdH).run call n st.env st.H st.lo) (fun st=>(qjQ b qdH).run call n st.env st.H st.lo) l c p0 p1 base m H lo with
     | some (.nrm,⟨e,H,lo⟩)=>kk.run call n e H lo
     | r=>r
    | none=>none) (qHm k' k && c.ok)
   | _=>none)=some x:=h
  rw [yb] at h
  rw [show exL pg (.rangeB k l f p0 p1 live a b) ⟨e,H,lo⟩=(match rd e f with
   | .fn k' [] [c]=>bif qHm k' k && c.ok then (match yR c H lo with
    | some n=>rounds (exL pg a) (exL pg b) l c p0 p1 (jk live e) n H lo
    | none=>none) else none
   | _=>none) by rw [zN];rfl]
  split at h
  ·rename_i k' c hf
   (try simp only [hf])
   cases hb:(qHm k' k && c.ok) with
   | false=>rw [hb] at h;cases h
   | true=>
    rw [hb] at h
    (try simp only [cond_true,hb])
    split at h
    ·rename_i m hm
     (try simp only [hm])
     rw [qZ (fun p k=>ze p.2 fun v=>k (p.1,v)),qR] at h
     have le:∀y,rounds (fun st=>(qjQ a qdH).run call n st.env st.H st.lo) (fun st=>(qjQ b qdH).run call n st.env st.H st.lo) l c p0 p1 (jk live e) m H lo=some y→rounds (exL pg a) (exL pg b) l c p0 p1 (jk live e) m H lo=some y:=fun y hy=>
      qiF (fun st z hz=>qly (jp hc a qdH n st.env st.H st.lo z hz)) (fun st z hz=>qly (jp hc b qdH n st.env st.H st.lo z hz)) m hy
     cases hq:rounds (fun st=>(qjQ a qdH).run call n st.env st.H st.lo) (fun st=>(qjQ b qdH).run call n st.env st.H st.lo) l c p0 p1 (jk live e) m H lo with
     | none=>rw [hq] at h;cases h
     | some y=>
      rw [hq] at h
      rw [le y hq]
      obtain ⟨ex,e',H',lo'⟩:=y
      cases ex with
      | nrm=>exact .inl ⟨_,rfl,h⟩
      | exit id=>cases h;exact .inr ⟨rfl,by simp⟩
      | ret=>cases h;exact .inr ⟨rfl,by simp⟩
      | pan v=>cases h;exact .inr ⟨rfl,by simp⟩
    ·cases h
  ·cases h
 | .rangeZ k f live,kk,n,e,H,lo,x,h=>by
  have h:(match frd e f with
   | .fn k' [] cap=>Bool.rec (motive:=fun _=>R) none (match call k (.undef::cap) H with
    | some r=>Bool.rec (motive:=fun _=>R) (frest live e fun e=>qm8 r.H fun H=>qt (min lo r.lo) fun lo=>kk.run call n e H lo) none r.pan
    | none=>none) (qHm k' k && V.ok.oks cap)
   | _=>none)=some x:=h
  rw [yb] at h
  split at h
  ·rename_i k' cap hf
   cases hb:(qHm k' k && V.ok.oks cap) with
   | false=>rw [hb] at h;cases h
   | true=>
    rw [hb] at h
    split at h
    ·rename_i r hr
     cases hp:r.pan with
     | true=>rw [hp] at h;cases h
     | false=>
      rw [hp] at h
      have h:(frest live e fun e=>qm8 r.H fun H=>qt (min lo r.lo) fun lo=>kk.run call n e H lo)=some x:=h
      rw [qk7,qpb,qR] at h
      refine .inl ⟨⟨restrict live e,r.H,min lo r.lo⟩,?_,h⟩
      rw [zN]
      have hr':=hc _ _ _ _ hr
      show step _ _ _ _=_
      simp only [step,hf,hb,cond_true,hr',hp,cond_false]
    ·cases h
  ·cases h
noncomputable def qym (own:Bool) (v:V) (κ:V→Option Cr):Option Cr:=V.rec (motive_1:=fun _=>Option Cr) (motive_2:=fun _=>Option Cr) (fun x=>κ (.d x)) (fun xs=>Bool.rec (motive:=fun _=>Option Cr) (κ (.d (.sl xs))) (κ (.osl xs)) own) (fun xs=>κ (.fsl xs)) (fun a b=>κ (.ptr a b)) (fun a b=>κ (.lp a b)) (fun _ _=>none) (fun x=>κ (.cp x)) (fun a b c d=>κ (.rs a b c d)) (fun a b c=>κ (.row a b c)) (fun a=>κ (.map a)) (fun f a b _ _=>κ (.fn f a b)) (fun t x _=>κ (.ifc t x)) (fun cs _=>Bool.rec (motive:=fun _=>Option Cr) (qbw (qbl (cs.map zh)) κ) (κ (.agg cs)) own) (fun vs _=>κ (.tup vs)) (κ .undef) none (fun _ _ _ _=>none) v
theorem qAD (own:Bool) (v:V) (κ:V→Option Cr):qym own v κ=(match (match v with | .box _=>none|v=>some (bif own then v else copy v)) with|some v=>κ v|none=>none):=by
 cases v with
 | agg cs=>cases own with
  | true=>rfl
  | false=>exact qaP _ _
 | _=>cases own<;>rfl
inductive KX where
 | mk (f:Env→List Obj→Nat→(List V→Option Cr)→Option Cr)
noncomputable def KX.run (k:KX):Env→List Obj→Nat→(List V→Option Cr)→Option Cr:=KX.rec (motive:=fun _=>Env→List Obj→Nat→(List V→Option Cr)→Option Cr) (fun f=>f) k
noncomputable def qFO (own:Bool) (r:Rv) (ih:KX):KX:=
 Rv.rec (motive:=fun _=>KX) (fun n=>.mk fun e H lo κ=>qym own (fget n e) fun v=>ih.run e H lo fun vs=>κ (v::vs))
  (fun n l=>.mk fun e H lo κ=>match qam own ⟨e,H,lo⟩ (.cell n l) with|some v=>qbw v fun v=>ih.run e H lo fun vs=>κ (v::vs)|none=>none) r
noncomputable def qvP (own:Bool) (l:List Rv):KX:=List.rec (motive:=fun _=>KX) (.mk fun _ _ _ κ=>κ []) (fun r _ ih=>qFO own r ih) l
theorem qzW (own:Bool) (l:List Rv) (e:Env) (H:List Obj) (lo:Nat) (κ:List V→Option Cr):(qvP own l).run e H lo κ=(match qM own ⟨e,H,lo⟩ l with|some vs=>κ vs|none=>none):=by
 induction l generalizing κ with
 | nil=>rfl
 | cons r l ih=>
  show (qFO own r (qvP own l)).run e H lo κ=_
  simp only [qM]
  cases r with
  | t n=>
   show qym own (fget n e) (fun v=>(qvP own l).run e H lo fun vs=>κ (v::vs))=_
   rw [qAD,j0]
   simp only [ih,qam]
   cases hv:get n e<;>first|rfl|(simp only [];cases qM own ⟨e,H,lo⟩ l<;>rfl)
  | cell n l'=>
   show (match qam own ⟨e,H,lo⟩ (.cell n l') with|some v=>qbw v fun v=>(qvP own l).run e H lo fun vs=>κ (v::vs)|none=>none)=_
   cases qam own ⟨e,H,lo⟩ (.cell n l') with
   | none=>rfl
   | some v=>
    simp only [qaP,ih]
    cases qM own ⟨e,H,lo⟩ l<;>rfl
noncomputable def qBD (v:V):Nat:=V.rec (motive_1:=fun _=>Nat) (motive_2:=fun _=>Nat) (fun _=>0) (fun _=>0) (fun _=>0) (fun a _=>Nat.succ a) (fun _ _=>0) (fun cs _=>V.ref (.box cs)) (fun _=>0) (fun a _ _ _=>Nat.succ a) (fun a _ _=>Nat.succ a) (fun a=>Nat.succ a) (fun f a b _ _=>V.ref (.fn f a b)) (fun t x _=>V.ref (.ifc t x)) (fun cs _=>V.ref (.agg cs)) (fun vs _=>V.ref (.tup vs)) 0 0 (fun _ _ _ _=>0) v
theorem qz1 (v:V):qBD v=v.ref:=by cases v<;>rfl
noncomputable def qGK (v:V):Bool:=V.rec (motive_1:=fun _=>Bool) (motive_2:=fun _=>Bool) (fun _=>false) (fun _=>false) (fun _=>false) (fun _ _=>false) (fun _ _=>false) (fun _ _=>false) (fun _=>false) (fun _ _ _ _=>true) (fun _ _ _=>false) (fun _=>false) (fun _ _ _ _ _=>false) (fun _ _ _=>false) (fun _ _=>false) (fun _ _=>false) false false (fun _ _ _ _=>false) v
noncomputable def qpU (H:List Obj) (v:V) (H':List Obj) (lo:Nat):Option Cr:=
 Bool.rec (motive:=fun _=>Option Cr)
  (Bool.rec (motive:=fun _=>Option Cr) none
   (Bool.rec (motive:=fun _=>Option Cr) (some ⟨false,false,v,H',lo⟩) (Bool.rec (motive:=fun _=>Option Cr) (some ⟨false,false,v,H',lo⟩) (some ⟨false,true,v,H,lo⟩) (Nat.ble (z6 H) lo)) (Nat.ble (qBD v) (z6 H))) (lvF v))
  (match leave H false v ⟨[],H',lo⟩ with|some ⟨pan,same,v,H,lo⟩=>qbw v fun v=>some (Cr.mk pan same v H lo)|none=>none) (qGK v)
theorem qvV (H:List Obj) (pan:Bool) (v:V) (e e':Env) (H':List Obj) (lo:Nat):leave H pan v ⟨e,H',lo⟩=leave H pan v ⟨e',H',lo⟩:=rfl
theorem qvK (H:List Obj) (v:V) (e:Env) (H':List Obj) (lo:Nat):qpU H v H' lo=leave H false v ⟨e,H',lo⟩:=by
 unfold qpU
 cases hr:qGK v with
 | true=>
  show (match leave H false v ⟨[],H',lo⟩ with|some ⟨pan,same,v,H,lo⟩=>qbw v fun v=>some (Cr.mk pan same v H lo)|none=>none)=_
  rw [qvV H false v [] e]
  cases leave H false v ⟨e,H',lo⟩ with
  | none=>rfl
  | some r=>obtain ⟨a,b,c,d,f⟩:=r;exact qaP _ _
 | false=>
  show Bool.rec (motive:=fun _=>Option Cr) none (Bool.rec (motive:=fun _=>Option Cr) (some ⟨false,false,v,H',lo⟩) (Bool.rec (motive:=fun _=>Option Cr) (some ⟨false,false,v,H',lo⟩) (some ⟨false,true,v,H,lo⟩) (Nat.ble (z6 H) lo)) (Nat.ble (qBD v) (z6 H))) (lvF v)=_
  have hs:settle H.length H' v=v:=by cases v<;>first|rfl|cases hr
  unfold leave
  simp only [hs,qy2,qz1,kh]
  cases v.leaves with
  | false=>rfl
  | true=>
   cases Nat.ble v.ref H.length with
   | false=>rfl
   | true=>cases Nat.ble H.length lo<;>rfl
noncomputable def qEz (vs:List V) (κ:V→Option Cr):Option Cr:=List.rec (motive:=fun _=>Option Cr) (κ (.tup [])) (fun v t _=>List.rec (motive:=fun _=>Option Cr) (κ v) (fun w u _=>κ (.tup (v::w::u))) t) vs
theorem qAV (vs:List V) (κ:V→Option Cr):qEz vs κ=κ (qg3 vs):=by
 cases vs with
 | nil=>rfl
 | cons v t=>cases t<;>rfl
noncomputable def qx1 (fn:Fn) (H:List Obj) (st:St):Option Cr:=St.rec (motive:=fun _=>Option Cr) (fun e H' lo=>(qvP fn.own fn.res).run e H' lo fun vs=>qEz vs fun v=>qpU H v H' lo) st
theorem qvh (fn:Fn) (H:List Obj) (st:St):qx1 fn H st=zK fn H st:=by
 obtain ⟨e,H',lo⟩:=st
 show ((qvP fn.own fn.res).run e H' lo fun vs=>qEz vs fun v=>qpU H v H' lo)=_
 rw [qzW]
 unfold zK
 cases qM fn.own ⟨e,H',lo⟩ fn.res with
 | none=>rfl
 | some vs=>simp only [qAV];exact qvK H _ e H' lo
noncomputable def qxH (fn:Fn):K:=qjQ fn.body qdH
noncomputable def exJ (call:Call) (n:Nat):C→St→Option (Ex × St):=fun c st=>(qjQ c qdH).run call n st.env st.H st.lo
noncomputable def qBa (pg:Pg) (call:Call) (n:Nat) (H:List Obj) (fn:Fn) (r:R):Option Cr:=
 Option.rec (motive:=fun _=>Option Cr) none (fun p=>Prod.rec (motive:=fun _=>Option Cr) (fun ex st=>Ex.rec (motive:=fun _=>Option Cr)
  (Option.rec (motive:=fun _=>Option Cr) (qx1 fn H st) (fun q=>deferred pg (exJ call n) fn H q.1 q.2 st) fn.dfr) (fun _=>none) (qx1 fn H st) (fun v=>leave H true v st) ex) p) r
def isNone {α:Type}:Option α→Bool
 | none=>true
 | some _=>false
theorem qvw {α:Type} {o:Option α} (h:isNone o=true):o=none:=by cases o<;>first|rfl|cases h
noncomputable def qAl (vs:List V):Nat→(Env→Option Cr)→Option Cr:=List.rec (motive:=fun _=>Nat→(Env→Option Cr)→Option Cr) (fun _ κ=>κ []) (fun v _ ih m κ=>ih (Nat.succ m) fun r=>κ ((m,v)::r)) vs
theorem qz6 (vs:List V) (m:Nat) (κ:Env→Option Cr):qAl vs m κ=κ (qW m vs):=by
 induction vs generalizing m κ with
 | nil=>rfl
 | cons v vs ih=>exact ih _ _
noncomputable def qd2 (pg:Pg) (n:Nat):Call:=
 Nat.rec (motive:=fun _=>Call) (fun _ _ _=>none) (fun m ih f vs H=>Option.rec (motive:=fun _=>Option Cr) (pg.ext f vs H)
  (fun fn=>Bool.rec (motive:=fun _=>Option Cr) none (Bool.rec (motive:=fun _=>Option Cr) none (qAl vs 0 fun e=>qt (z6 H) fun hl=>qBa pg ih m H fn ((qxH fn).run ih m e H hl)) (qHm fn.np (z6 vs))) (isNone fn.rcv)) (pg.fn f)) n
theorem qDT {pg:Pg} {call:Call} (hc:qaV call (qf pg)) (n:Nat):qqr (exJ call n) (exL pg):=fun c st x h=>qly (jp hc c qdH n st.env st.H st.lo x h)
theorem qom (pg:Pg):∀n,qaV (qd2 pg n) (qf pg)
 | 0=>fun i vs H r h=>by cases h
 | n+1=>fun i vs H r h=>by
  have h:Option.rec (motive:=fun _=>Option Cr) (pg.ext i vs H)
   (fun fn=>Bool.rec (motive:=fun _=>Option Cr) none (Bool.rec (motive:=fun _=>Option Cr) none (qAl vs 0 fun e=>qt (z6 H) fun hl=>qBa pg (qd2 pg n) n H fn ((qxH fn).run (qd2 pg n) n e H hl)) (qHm fn.np (z6 vs))) (isNone fn.rcv)) (pg.fn i)=some r:=h
  rw [qk6]
  unfold qx
  cases hf:pg.fn i with
  | none=>rw [hf] at h;exact h
  | some fn=>
   rw [hf] at h
   have h:Bool.rec (motive:=fun _=>Option Cr) none (Bool.rec (motive:=fun _=>Option Cr) none (qAl vs 0 fun e=>qt (z6 H) fun hl=>qBa pg (qd2 pg n) n H fn ((qxH fn).run (qd2 pg n) n e H hl)) (qHm fn.np (z6 vs))) (isNone fn.rcv)=some r:=h
   rw [qz6,qR,kh,kh] at h
   cases hb1:isNone fn.rcv with
   | false=>rw [hb1] at h;cases h
   | true=>
    rw [hb1] at h
    cases hb:qHm fn.np vs.length with
    | false=>rw [hb] at h;cases h
    | true=>
     rw [hb] at h
     have h:qBa pg (qd2 pg n) n H fn ((qxH fn).run (qd2 pg n) n (qW 0 vs) H H.length)=some r:=h
     have hcond:fn.np=vs.length∧fn.rcv=none:=⟨qHr hb,qvw hb1⟩
     simp only [if_pos hcond]
     cases hq:(qxH fn).run (qd2 pg n) n (qW 0 vs) H H.length with
     | none=>rw [hq] at h;cases h
     | some y=>
      have hy:=qly (jp (qom pg n) fn.body qdH n _ _ _ _ hq)
      rw [hq] at h
      rw [hy]
      obtain ⟨ex,st⟩:=y
      cases ex with
      | nrm=>
       have h:Option.rec (motive:=fun _=>Option Cr) (qx1 fn H st) (fun q=>deferred pg (exJ (qd2 pg n) n) fn H q.1 q.2 st) fn.dfr=some r:=h
       show (match fn.dfr with
        | none=>zK fn H st
        | some (t,rest)=>deferred pg (exL pg) fn H t rest st)=some r
       cases hd:fn.dfr with
       | none=>rw [hd,qvh] at h;exact h
       | some q=>
        obtain ⟨t,rest⟩:=q
        rw [hd] at h
        exact qhn (qDT (qom pg n) n) h
      | exit id=>cases h
      | ret=>
       have h:qx1 fn H st=some r:=h
       rw [qvh] at h;exact h
      | pan v=>exact h
theorem qpI {pg:Pg} {n f:Nat} {vs:List V} {H:List Obj} {r:Cr} (h:qd2 pg n f vs H=some r):qf pg f vs H=some r:=qom pg n _ _ _ _ h
end W
/-
  What the kernel works out of a call on closed data, as a fact about the call.
-/
set_option linter.unusedSimpArgs false
set_option linter.unusedVariables false
namespace W
open Go (IntKind BinOp UnOp)
def qup:List V→List D→Bool
 | [],[]=>true
 | .d x::l,y::r=>eqD x y && qup l r
 | _,_=>false
theorem qpT:∀{l:List V} {r:List D},qup l r=true→l=r.map .d
 | [],[],_=>rfl
 | v::l,y::r,h=>by
  cases v with
  | d x=>
   simp only [qup,qHo] at h
   rw [qpP h.1,qpT h.2];rfl
  | _=>cases h
 | [],_::_,h=>by simp [qup] at h
 | v::_,[],h=>by cases v<;>simp [qup] at h
def isD (r:Option Cr) (x:D):Bool:=match r with
 | some ⟨false,true,.d y,_,_⟩=>eqD y x
 | _=>false
def qxy (r:Option Cr) (x:List D):Bool:=match r with
 | some ⟨false,true,.tup y,_,_⟩=>qup y x
 | _=>false
theorem qo3 {pg:Pg} (hx:qD pg.ext) {f:Nat} {vs:List V} {H H':List Obj} {v:V} {lo:Nat} (h:qf pg f vs H=some ⟨false,true,v,H',lo⟩):qf pg f vs H=some ⟨false,true,v,H,lo⟩:=by
 obtain ⟨n,hn⟩:=zL.1 h
 have hlo:=(jO hx (yH hx n) _ _ _ _ hn).2.2 rfl
 simp only at hlo
 rw [hlo] at h
 exact h
theorem qyo {pg:Pg} (hx:qD pg.ext) {N f:Nat} {vs:List V} {H:List Obj} {x:D} (h:isD (qd2 pg N f vs H) x=true):∃lo,qf pg f vs H=some ⟨false,true,.d x,H,lo⟩:=by
 unfold isD at h
 split at h
 ·rename_i y H' lo hr
  rw [qpP h] at hr
  exact ⟨lo,qo3 hx (qpI hr)⟩
 ·cases h
theorem qtD {pg:Pg} (hx:qD pg.ext) {N f:Nat} {vs:List V} {H:List Obj} {x:List D} (h:qxy (qd2 pg N f vs H) x=true):∃lo,qf pg f vs H=some ⟨false,true,.tup (x.map .d),H,lo⟩:=by
 unfold qxy at h
 split at h
 ·rename_i y H' lo hr
  rw [qpT h] at hr
  exact ⟨lo,qo3 hx (qpI hr)⟩
 ·cases h
end W
namespace W
set_option maxRecDepth 100000
def ixN (c:Nat):List Nat→Int
 | []=>-1
 | x::l=>bif qHm x c then 0 else match ixN c l with
  | .ofNat n=>.ofNat (n+1)
  | v=>v
def ixX (vs:List V) (H:List Obj):Option Cr:=
 match vs with
 | [.d (.s t),.d (.i .u8 (.ofNat c))]=>some ⟨false,true,.d (.i .i64 (ixN (c % 256) t)),H,H.length⟩
 | _=>none
def pg:Pg:=⟨fun n=>bif qHm n 333 then none else prog n,fun i vs H=>bif qHm i 333 then ixX vs H else none⟩
theorem qp8:qD fun _ vs H=>ixX vs H:=fun i vs H r h=>by
 simp only [ixX] at h
 split at h
 ·cases h
  exact ⟨qHq _,fun _ _ _=>rfl,fun _=>rfl⟩
 ·cases h
theorem kC:qD pg.ext:=fun i vs H r h=>by
 simp only [pg,qHn] at h
 split at h
 ·exact qp8 i vs H r h
 ·cases h
end W
/-
  More equations: nil slices, shifts, bits, bytes.
-/
set_option linter.unusedSimpArgs false
set_option linter.unusedVariables false
namespace W
open Go (IntKind BinOp UnOp)
theorem qsl {n:Nat}:isC (.t n)=false:=(rfl)
theorem quL {x:D}:isC (.c x)=true:=(rfl)
def qk5 (s:Nat) (v:V):V:=match v with | .lp t o=>bif qHm t s then .undef else .lp t o|v=>v
theorem qfu {s:Nat}:qaw s []=[]:=(rfl)
theorem qdJ {s n:Nat} {v:V} {e:Env}:qaw s ((n,v)::e)=(n,qk5 s v)::qaw s e:=(rfl)
theorem qmC {s:Nat} {x:D}:qk5 s (.d x)=.d x:=(rfl)
theorem qlp {s:Nat} {x:List D}:qk5 s (.osl x)=.osl x:=(rfl)
theorem qwJ {s i o:Nat}:qk5 s (.ptr i o)=.ptr i o:=(rfl)
theorem qvG {s:Nat} {x:List V}:qk5 s (.box x)=.box x:=(rfl)
theorem qrs {s:Nat} {x:D}:qk5 s (.cp x)=.cp x:=(rfl)
theorem qxg {s:Nat} {x:List V}:qk5 s (.tup x)=.tup x:=(rfl)
theorem qrx {s:Nat}:qk5 s .undef=.undef:=(rfl)
theorem qpl {α:Type} {s:Nat} {e:α→D} {L:List α}:qk5 s (slV e L)=slV e L:=by cases L<;>rfl
theorem qfw {cs vs:List V} (h:(vs.length=cs.length)=True):qL cs 0 vs=some vs:=by
 have h:vs.length=cs.length:=by rw [h];trivial
 simp [qL,h]
def lpD (r:Bool) (n m o:Nat) (st:St):Option St:=bif r then none else some {st with env:=(n,.lp m o)::st.env}
theorem qA4 {bx:Bool} {no:List Nat} {n m o:Nat} {st:St}:jJ bx no (some n) (.lp m o) st=lpD (jK m no) n m o st:=(rfl)
theorem qF2 {n m o:Nat} {st:St}:lpD false n m o st=some ⟨(n,.lp m o)::st.env,st.H,st.lo⟩:=(rfl)
theorem qte {n:Nat}:jK n []=false:=(rfl)
theorem qvv {i o:Nat}:qer (.ptr i o)=.ptr i o:=(rfl)
theorem qoY {o o':Obj}:qP [o] 0 o'=[o']:=(rfl)
def e8 (n:Nat):D:=.i .u8 (n:Int)
end W
/- Walking on: interfaces, panics, function values, deferred closures. -/
set_option linter.unusedSimpArgs false
set_option linter.unusedVariables false
namespace W
open Go (IntKind BinOp UnOp)
variable {pg:Pg} {st:St} {call:Call}
end W
/-
  Walking of rows that may be written.
-/
set_option linter.unusedSimpArgs false
set_option linter.unusedVariables false
namespace W
open Go (IntKind BinOp UnOp)
section
variable {call:Call} {st:St}
end
end W
/- What genrisc lays. -/
set_option linter.unusedSimpArgs false
set_option linter.unusedVariables false
namespace W
open Go (IntKind BinOp UnOp)
set_option maxRecDepth 20000
set_option linter.defProp false in
def kX:=(And.intro (And.intro (And.intro (And.intro (And.intro (And.intro @qAq (And.intro @qaO @qwU)) (And.intro @qfz (And.intro @qjo @qmH))) (And.intro (And.intro @l_.eq_1 (And.intro @quz @qiL)) (And.intro @qfS (And.intro @qiA @qdn)))) (And.intro (And.intro (And.intro @qk2 (And.intro @qcA @qwJ)) (And.intro @qxB (And.intro @qo1 @qdJ))) (And.intro (And.intro @a_.eq_1 (And.intro @s_.eq_1 @qBB)) (And.intro (And.intro @qiq @qkp) (And.intro @qrR @quB))))) (And.intro (And.intro (And.intro (And.intro @i_.eq_1 (And.intro @qvz @qqR)) (And.intro @qmK (And.intro @qxO @jm))) (And.intro (And.intro @qkB (And.intro @k_.eq_1 @qiu)) (And.intro (And.intro @qiw @qiz) (And.intro @qg4 @qwB)))) (And.intro (And.intro (And.intro @o_.eq_1 (And.intro @qeA @qlN)) (And.intro @m_.eq_1 (And.intro @qeL @qfu))) (And.intro (And.intro @qyU (And.intro @qpL @qqx)) (And.intro (And.intro @qe6 @qrA) (And.intro @qkt @qk8)))))) (And.intro (And.intro (And.intro (And.intro (And.intro @qhf (And.intro @qiH @qki)) (And.intro @qmC (And.intro @qzu @qhy))) (And.intro (And.intro @qvI (And.intro @qmB @qkU)) (And.intro (And.intro @qph @qkg) (And.intro @qfT @qa0)))) (And.intro (And.intro (And.intro @quL (And.intro @qco @v_.eq_1)) (And.intro @qcm (And.intro @qjY @qfF))) (And.intro (And.intro @qa1 (And.intro @qmF @c_.eq_1)) (And.intro (And.intro @qkC @qua) (And.intro @qet @qk4))))) (And.intro (And.intro (And.intro (And.intro @qgW (And.intro @g_.eq_1 @qvi)) (And.intro @qvv (And.intro @qsl @qop))) (And.intro (And.intro @qlq (And.intro @qqq @qqa)) (And.intro (And.intro @qqc @qvo) (And.intro @qpZ @qyk)))) (And.intro (And.intro (And.intro @qm7 (And.intro @qse @qvc)) (And.intro @qA3 (And.intro @q_.eq_1 @qe3))) (And.intro (And.intro @jZ (And.intro @qfY @qqN)) (And.intro (And.intro @qqf @qtx) (And.intro @qkk @d_.eq_1)))))))
def ln (F:Int) (U V:Bool) (A B C O I to:Int):D:=.agg [.i .i64 F,.b U,.b V,.i .i64 A,.i .i64 B,.i .i64 C,.i .i64 O,.i .i32 I,.i .i64 to]
def kp (O A B N:Int):D:=ln 1 false false A B 0 O N (-1)
def mSt (A B N:Int):D:=ln 2 true false A B 0 0 N (-1)
def mLd (A B N:Int):D:=ln 2 false false A B 0 0 N (-1)
def qgH (O A B C:Int):D:=ln 0 false false A B C O 0 (-1)
def qbQ (A N:Int):D:=ln 3 true false A 0 0 0 N (-1)
def qfd (A:Int) (V:Bool) (K:Int):D:=ln 3 true V A 0 0 0 0 K
def yU (A:Int):List D:=[mSt A 13 0,kp 8 13 13 4]
def qmq (A:Int):List D:=[kp 9 13 13 4,mLd A 13 0]
def qbe:List D:=[mLd 0 13 (-4),mLd 1 13 (-8)]
def qeI (N:Int):List D:=[kp 9 13 13 (N * 4)]
def qjr:List D:=[mSt 1 13 (-8),kp 9 13 13 4]
def qiP (O:Int):List D:=qbe++(qgH O 1 1 0::qjr)
def qls (O:Int):List D:=qbe++(qgH 9 1 1 0::qbQ O 2::kp 0 1 0 0::qbQ 7 1::kp 0 1 0 1::qjr)
def qmv (K:Int):List D:=[ln 3 false true 7 0 12 0 K (-1)]
def qcG:List D:=[kp 1 2 12 2,kp 9 11 12 2,mLd 15 2 (-8),mLd 12 2 (-4),ln 3 false false 7 0 15 0 0 (-1)]
def qjS (N:Int):List D:=[kp 1 2 11 2,mSt 15 2 0,mSt 12 2 4,kp 8 12 11 2,kp 8 11 12 N]
def qov (N:Int):List D:=[kp 1 0 12 2,kp 0 1 0 N,kp 0 3 0 0,mSt 3 0 0,kp 8 0 0 4,kp 9 1 1 1,qbQ 9 (-4)]
def qog (A N:Int):D:=ln 1 false true A 0 0 0 (N+65536) (-1)
def qj0 (A N:Int):List D:=[ln 1 true false A 0 0 0 1 (-1),kp 6 A A N]
def qkl (l:List D):List D:=mLd 0 13 (-4)::(l++[mSt 0 13 (-4)])
def qeg (op k:Int):Option (List D):=
 bif eqI op 1 then (bif leI 0 k && leI k 1000 then some (kp 0 0 0 k::yU 0) else bif eqI k 65540 then some (qj0 0 4++yU 0) else bif eqI k 65541 then some (qj0 0 5++yU 0) else bif leI (-65536) k && !leI 0 k then some (qog 0 k::yU 0) else none) else
 bif !(leI 0 k && leI k 1000) then none else
 bif eqI op 26 then some (qmq 0++[qfd 1 false k]) else
 bif eqI op 6 then some (qkl [kp 1 0 0 2,mLd 0 0 0]) else
 bif eqI op 25 then some [qfd 7 false k] else
 bif eqI op 5 then some (kp 8 0 12 k::yU 0) else
 bif eqI op 7 then some (qbe++(kp 1 1 1 2::mSt 0 1 0::qeI 2)) else
 bif eqI op 2 then some (mLd 0 13 (-4)::yU 0) else
 bif eqI op 3 then some (qeI 1) else
 bif eqI op 4 then some (qbe++[mSt 0 13 (-8),mSt 1 13 (-4)]) else
 bif eqI op 9 then some (qiP 8) else
 bif eqI op 10 then some (qiP 9) else
 bif eqI op 12 then some (qiP 11) else
 bif eqI op 15 then some (qiP 4) else
 bif eqI op 19 then some (qiP 1) else
 bif eqI op 20 then some (qiP 2) else
 bif eqI op 22 then some (qls 1) else
 bif eqI op 23 then some (qls 5) else
 bif eqI op 24 then some (qls 6) else
 bif eqI op 13 then some (qbe++(qgH 11 1 1 0::ln 0 true false 1 0 0 0 0 (-1)::qjr)) else
 bif eqI op 14 then some (qkl [kp 0 1 0 0,qgH 9 0 1 0]) else
 bif eqI op 27 then some [qfd 7 true k] else
 bif eqI op 28 then some (bif eqI k 0 then qjS 0 else qjS k++qov k) else
 bif eqI op 29 then some qcG else
 bif eqI op 30 then some (qmv k) else
 bif eqI op 33 then some (qmq 0++[kp 0 1 0 0,mSt 0 1 (-64)]) else
 bif eqI op 0 then some (qmv 0) else none
theorem qu6 {x y:D} {t:List D} (hx:qHm x.cells.length 9=true) (hy:qHm y.cells.length 9=true) (h:t.length+2≤1000000):zx 9 64 (.osl (x::t)) (.d (.sl [y]))=some (.osl (x::(t++[y]))):=by
 have hr:roomy 64 ((x::t).length+[y].length)=true:=by
  simp only [roomy,qHo]
  exact ⟨Nat.ble_eq_true_of_le (by simp;omega),Nat.ble_eq_true_of_le (by simp;omega)⟩
 simp only [zx,qN,hx,hy,hr,qHw,cond_true,qHA]
theorem lv {a:Obj} {e:Env} {H':List Obj} {lo:Nat} (hl:(lo<1)=True):leave [a] false (.tup []) ⟨e,H',lo⟩=some ⟨false,false,.tup [],H',lo⟩:=qwi rfl (.inr (by show lo<1;rw [hl];trivial)) rfl
theorem lvd {a:Obj} {x:D} {e:Env} {H':List Obj}:leave [a] false (.d x) ⟨e,H',1⟩=some ⟨false,true,.d x,[a],1⟩:=qol (H:=[a]) rfl rfl rfl
theorem qka {n:Int} (h1:-9223372036854775808≤n) (h2:n≤9223372036854775807):wr .i64 n=n:=qep h1 h2
theorem qFs {n:Int} (h1:-2147483648≤n) (h2:n≤2147483647):wr .i32 n=n:=qlB h1 h2
def qjs (x:D) (op k:Int):Prop:=∀(t m:List D),qeg op k=some m→t.length+20≤1000000→qf pg 56 [.ptr 0 0,.d (.agg [.i .i64 op,.i .i32 k])] [.cells [.osl (x::t)]]=some ⟨false,false,.tup [],[.cells [.osl (x::(t++m))]],0⟩
theorem qF6 {a b:V} {H:List Obj}:qf pg 120 [a,b] H=qt4 H f_genrisc_gen_reckon.own f_genrisc_gen_reckon.res (exL pg f_genrisc_gen_reckon.body {env:=qW 0 [a,b],H,lo:=H.length}):=qk rfl rfl
theorem qzE {a b:V} {H:List Obj}:qf pg 121 [a,b] H=qt4 H f_genrisc_gen_leads.own f_genrisc_gen_leads.res (exL pg f_genrisc_gen_leads.body {env:=qW 0 [a,b],H,lo:=H.length}):=qk rfl rfl
theorem qFK {a:V} {H:List Obj}:qf pg 182 [a] H=qt4 H f_genrisc_operation.own f_genrisc_operation.res (exL pg f_genrisc_operation.body {env:=qW 0 [a],H,lo:=H.length}):=qk rfl rfl
section
variable {x:D} (hx:qHm x.cells.length 9=true)
 include hx
theorem jL {t:List D} {F A B C O I:Int} {U V:Bool}  (h:t.length+2≤1000000):qf pg 111 [.ptr 0 0,.d (.agg [.i .i64 F,.b U,.b V,.i .i64 A,.i .i64 B,.i .i64 C,.i .i64 O,.i .i32 I])] [.cells [.osl (x::t)]]=some ⟨false,false,.tup [],[.cells [.osl (x::(t++[ln F U V A B C O I (-1)]))]],0⟩:=by
 have hT:∀k,(k≤2)=True→t.length+k≤1000000:=fun k hk=>by
  have hk:k≤2:=of_eq_true hk
  omega
 rw [qk (fn:=jx) rfl rfl]
 simp only [kX,jx,Int.reduceNeg,z_,qHB,Nat.reduceAdd,qHt,qHv,reduceCtorEq,qHx,qHG,qHw,qsc,qpF,qpe,qyO,qo7,qc7,qqO,Nat.add_zero,qky,qHD,qHI,qoY,Nat.min_zero,ql9,qyF,Nat.reduceEqDiff,Nat.reduceLeDiff,List.drop_zero,List.take_succ_cons,List.take_zero,qyQ,qjM,qlO,qu4,qHE,List.drop_succ_cons,qHA,Nat.reduceLT,List.set_cons_succ,zS,qdq,List.reduceReplicate,Nat.zero_lt_one,qcR,qfk,qhr,qtv,qkI,qhz,qb4,qpv,qew,qlY,hx,qkH,decide_true,hT,qu6,qiK,qbk,qrz,qpp,qq8,qkM,qjJ,qkV,Nat.min_self,qvJ,qlX,lv,ln]
theorem k9 {t:List D} {O A B N:Int} (h0:0≤N) (h1:N≤65535) (h:t.length+2≤1000000):qf pg 110 [.ptr 0 0,.d (.i .i64 O),.d (.i .i64 A),.d (.i .i64 B),.d (.i .i64 N)] [.cells [.osl (x::t)]]=some ⟨false,false,.tup [],[.cells [.osl (x::(t++[kp O A B N]))]],0⟩:=by
 have hT:∀k,(k≤2)=True→t.length+k≤1000000:=fun k hk=>by
  have hk:k≤2:=of_eq_true hk
  omega
 have hn:(N<0)=False:=eq_false (by omega)
 have hw:wr .i32 N=N:=qlB (by omega) (by omega)
 rw [qk (fn:=kM) rfl rfl]
 simp only [kX,kM,qHB,Nat.reduceAdd,qHt,qHv,reduceCtorEq,Nat.reduceEqDiff,Bool.or_true,hn,decide_false,qHu,↓reduceIte,hw,qHx,qHG,Nat.reduceLT,qHI,List.set_cons_succ,qHw,Nat.reduceLeDiff,hT,jL hx,ln,Int.reduceNeg,Nat.min_zero,Nat.zero_lt_one,lv,kp]
theorem qvu {t:List D} {O A B N:Int} (h0:N<0) (h1:-65536≤N) (h:t.length+2≤1000000):qf pg 110 [.ptr 0 0,.d (.i .i64 O),.d (.i .i64 A),.d (.i .i64 B),.d (.i .i64 N)] [.cells [.osl (x::t)]]=some ⟨false,false,.tup [],[.cells [.osl (x::(t++[ln 1 false true A B 0 O (N+65536) (-1)]))]],0⟩:=by
 have hT:∀k,(k≤2)=True→t.length+k≤1000000:=fun k hk=>by
  have hk:k≤2:=of_eq_true hk
  omega
 have hn:(N<0)=True:=eq_true (by omega)
 have hw:wr .i64 (N+65536)=N+65536:=qep (by omega) (by omega)
 have hw2:wr .i32 (N+65536)=N+65536:=qlB (by omega) (by omega)
 rw [qk (fn:=kM) rfl rfl]
 simp only [kX,kM,qHB,Nat.reduceAdd,qHt,qHv,reduceCtorEq,Nat.reduceEqDiff,Bool.or_true,hn,decide_true,↓reduceIte,qmI,hw,hw2,qHx,qHG,Nat.reduceLT,qHI,List.set_cons_succ,qHw,Nat.reduceLeDiff,hT,jL hx,ln,Int.reduceNeg,Nat.min_zero,Nat.zero_lt_one,lv]
theorem qku {t:List D} {O A B C:Int}  (h:t.length+2≤1000000):qf pg 177 [.ptr 0 0,.d (.i .i64 O),.d (.i .i64 A),.d (.i .i64 B),.d (.i .i64 C)] [.cells [.osl (x::t)]]=some ⟨false,false,.tup [],[.cells [.osl (x::(t++[qgH O A B C]))]],0⟩:=by
 have hT:∀k,(k≤2)=True→t.length+k≤1000000:=fun k hk=>by
  have hk:k≤2:=of_eq_true hk
  omega
 rw [qk (fn:=ju) rfl rfl]
 simp only [kX,ju,qHB,Nat.reduceAdd,qHt,qHv,Nat.reduceEqDiff,reduceCtorEq,qHx,qHG,Nat.reduceLT,qHI,List.set_cons_succ,qHw,Nat.reduceLeDiff,hT,jL hx,ln,Int.reduceNeg,Nat.min_zero,Nat.zero_lt_one,lv,qgH]
theorem qcy {t:List D} {A B N:Int} (h0:-65536≤N) (h1:N≤65535) (h:t.length+2≤1000000):qf pg 113 [.ptr 0 0,.d (.i .i64 A),.d (.i .i64 B),.d (.i .i64 N)] [.cells [.osl (x::t)]]=some ⟨false,false,.tup [],[.cells [.osl (x::(t++[mLd A B N]))]],0⟩:=by
 have hT:∀k,(k≤2)=True→t.length+k≤1000000:=fun k hk=>by
  have hk:k≤2:=of_eq_true hk
  omega
 have hw:wr .i32 N=N:=qlB (by omega) (by omega)
 rw [qk (fn:=je) rfl rfl]
 simp only [kX,je,qHB,Nat.reduceAdd,qHt,qHv,Nat.reduceEqDiff,reduceCtorEq,hw,qHx,qHG,Nat.reduceLT,qHI,List.set_cons_succ,qHw,Nat.reduceLeDiff,hT,jL hx,ln,Int.reduceNeg,Nat.min_zero,Nat.zero_lt_one,lv,mLd]
theorem yJ {t:List D} {A B N:Int} (h0:-65536≤N) (h1:N≤65535) (h:t.length+2≤1000000):qf pg 116 [.ptr 0 0,.d (.i .i64 A),.d (.i .i64 B),.d (.i .i64 N)] [.cells [.osl (x::t)]]=some ⟨false,false,.tup [],[.cells [.osl (x::(t++[mSt A B N]))]],0⟩:=by
 have hT:∀k,(k≤2)=True→t.length+k≤1000000:=fun k hk=>by
  have hk:k≤2:=of_eq_true hk
  omega
 have hw:wr .i32 N=N:=qlB (by omega) (by omega)
 rw [qk (fn:=zI) rfl rfl]
 simp only [kX,zI,qHB,Nat.reduceAdd,qHt,qHv,Nat.reduceEqDiff,reduceCtorEq,hw,qHx,qHG,Nat.reduceLT,qHI,List.set_cons_succ,qHw,Nat.reduceLeDiff,hT,jL hx,ln,Int.reduceNeg,Nat.min_zero,Nat.zero_lt_one,lv,mSt]
theorem qpw {t:List D} {A N:Int} (h0:-65536≤N) (h1:N≤65535) (h:t.length+2≤1000000):qf pg 178 [.ptr 0 0,.d (.i .i64 A),.d (.i .i64 N)] [.cells [.osl (x::t)]]=some ⟨false,false,.tup [],[.cells [.osl (x::(t++[qbQ A N]))]],0⟩:=by
 have hT:∀k,(k≤2)=True→t.length+k≤1000000:=fun k hk=>by
  have hk:k≤2:=of_eq_true hk
  omega
 have hw:wr .i32 N=N:=qlB (by omega) (by omega)
 rw [qk (fn:=z7) rfl rfl]
 simp only [kX,z7,qHB,Nat.reduceAdd,qHt,qHv,Nat.reduceEqDiff,reduceCtorEq,hw,qHx,qHG,Nat.reduceLT,qHI,List.set_cons_succ,qHw,Nat.reduceLeDiff,hT,jL hx,ln,Int.reduceNeg,Nat.min_zero,Nat.zero_lt_one,lv,qbQ]
theorem qvH {t:List D} {A K:Int} {V:Bool} (h0:0≤K) (h1:K≤65535) (h:t.length+2≤1000000):qf pg 184 [.ptr 0 0,.d (.i .i64 A),.d (.b V),.d (.i .i32 K)] [.cells [.osl (x::t)]]=some ⟨false,false,.tup [],[.cells [.osl (x::(t++[qfd A V K]))]],0⟩:=by
 have hT:∀k,(k≤2)=True→t.length+k≤1000000:=fun k hk=>by
  have hk:k≤2:=of_eq_true hk
  omega
 have hw:wr .i64 K=K:=qep (by omega) (by omega)
 rw [qk (fn:=ji) rfl rfl]
 simp only [kX,ji,z_,qHB,Nat.reduceAdd,qHt,qHv,reduceCtorEq,qc7,qqO,Nat.add_zero,qky,qHD,qHI,qoY,Nat.min_zero,qmJ,Nat.reduceEqDiff,qHx,qHG,Nat.reduceLT,List.set_cons_succ,hw,qjM,qlO,qHw,Nat.reduceLeDiff,qu4,List.take_zero,qHE,List.drop_succ_cons,List.drop_zero,qHA,zS,qdq,List.reduceReplicate,Nat.zero_lt_one,qcR,qfk,qhr,qtv,qkI,qhz,qb4,qpv,qew,qlY,hx,qkH,decide_true,hT,qu6,qiK,qbk,qrz,qpp,qq8,qkM,qjJ,qkV,Nat.min_self,qkx,lv,qfd,ln]
theorem qeB {t:List D} {A:Int}  (h:t.length+3≤1000000):qf pg 112 [.ptr 0 0,.d (.i .i64 A)] [.cells [.osl (x::t)]]=some ⟨false,false,.tup [],[.cells [.osl (x::(t++yU A))]],0⟩:=by
 have hT:∀k,(k≤3)=True→t.length+k≤1000000:=fun k hk=>by
  have hk:k≤3:=of_eq_true hk
  omega
 rw [qk (fn:=ja) rfl rfl]
 simp only [kX,ja,qHB,Nat.reduceAdd,qHt,qHv,Nat.reduceEqDiff,reduceCtorEq,qHx,qHG,qHw,Int.reduceNeg,Int.reduceLE,Nat.reduceLeDiff,hT,yJ hx,mSt,ln,Nat.min_zero,qHH,Nat.add_assoc,k9 hx,kp,List.append_assoc,qHA,qHE,Nat.min_self,Nat.zero_lt_one,lv,yU]
theorem qyT {t:List D} {A:Int}  (h:t.length+3≤1000000):qf pg 119 [.ptr 0 0,.d (.i .i64 A)] [.cells [.osl (x::t)]]=some ⟨false,false,.tup [],[.cells [.osl (x::(t++qmq A))]],0⟩:=by
 have hT:∀k,(k≤3)=True→t.length+k≤1000000:=fun k hk=>by
  have hk:k≤3:=of_eq_true hk
  omega
 rw [qk (fn:=jC) rfl rfl]
 simp only [kX,jC,qHB,Nat.reduceAdd,qHt,qHv,qHx,qHG,qHw,Int.reduceLE,Nat.reduceLeDiff,hT,k9 hx,kp,ln,Int.reduceNeg,Nat.min_zero,reduceCtorEq,Nat.reduceEqDiff,qHH,Nat.add_assoc,qcy hx,mLd,List.append_assoc,qHA,qHE,Nat.min_self,Nat.zero_lt_one,lv,qmq]
theorem qlD {t:List D}   (h:t.length+3≤1000000):qf pg 115 [.ptr 0 0] [.cells [.osl (x::t)]]=some ⟨false,false,.tup [],[.cells [.osl (x::(t++qbe))]],0⟩:=by
 have hT:∀k,(k≤3)=True→t.length+k≤1000000:=fun k hk=>by
  have hk:k≤3:=of_eq_true hk
  omega
 rw [qk (fn:=jf) rfl rfl]
 simp only [kX,jf,Int.reduceNeg,qHB,qHt,qHv,qHx,qHG,qHw,Int.reduceLE,Nat.reduceLeDiff,hT,qcy hx,mLd,ln,Nat.min_zero,reduceCtorEq,qHH,Nat.add_assoc,Nat.reduceAdd,List.append_assoc,qHA,qHE,Nat.min_self,Nat.zero_lt_one,lv,qbe]
theorem qo0 {t:List D} {N:Int} (h0:0≤N) (h1:N≤1000) (h:t.length+2≤1000000):qf pg 114 [.ptr 0 0,.d (.i .i64 N)] [.cells [.osl (x::t)]]=some ⟨false,false,.tup [],[.cells [.osl (x::(t++qeI N))]],0⟩:=by
 have hT:∀k,(k≤2)=True→t.length+k≤1000000:=fun k hk=>by
  have hk:k≤2:=of_eq_true hk
  omega
 have hw:wr .i64 (N * 4)=N * 4:=qep (by omega) (by omega)
 have g0:(0≤N * 4)=True:=eq_true (by omega)
 have g1:(N * 4≤65535)=True:=eq_true (by omega)
 rw [qk (fn:=z8) rfl rfl]
 simp only [kX,z8,qHB,Nat.reduceAdd,qHt,qHv,Nat.reduceEqDiff,reduceCtorEq,Bool.or_true,qA2,hw,qHx,qHG,qHw,g0,g1,Nat.reduceLeDiff,hT,k9 hx,kp,ln,Int.reduceNeg,Nat.min_zero,Nat.zero_lt_one,lv,qeI]
theorem qha {t:List D}   (h:t.length+3≤1000000):qf pg 179 [.ptr 0 0] [.cells [.osl (x::t)]]=some ⟨false,false,.tup [],[.cells [.osl (x::(t++qjr))]],0⟩:=by
 have hT:∀k,(k≤3)=True→t.length+k≤1000000:=fun k hk=>by
  have hk:k≤3:=of_eq_true hk
  omega
 rw [qk (fn:=zp) rfl rfl]
 simp only [kX,zp,Int.reduceNeg,qHB,qHt,qHv,qHx,qHG,qHw,Int.reduceLE,Nat.reduceLeDiff,hT,yJ hx,mSt,ln,Nat.min_zero,reduceCtorEq,qHH,Nat.add_assoc,Nat.reduceAdd,qo0 hx,qeI,kp,Int.reduceMul,List.append_assoc,qHA,qHE,Nat.min_self,Nat.zero_lt_one,lv,qjr]
theorem qzj {t:List D} {O:Int}  (h:t.length+6≤1000000):qf pg 181 [.ptr 0 0,.d (.i .i64 O)] [.cells [.osl (x::t)]]=some ⟨false,false,.tup [],[.cells [.osl (x::(t++qiP O))]],0⟩:=by
 have hT:∀k,(k≤6)=True→t.length+k≤1000000:=fun k hk=>by
  have hk:k≤6:=of_eq_true hk
  omega
 rw [qk (fn:=jH) rfl rfl]
 simp only [kX,jH,qHB,Nat.reduceAdd,qHt,qHv,qHx,qHG,qHw,Nat.reduceLeDiff,hT,qlD hx,qbe,mLd,ln,Int.reduceNeg,Nat.min_zero,reduceCtorEq,Nat.reduceEqDiff,qHH,Nat.add_assoc,qku hx,qgH,List.append_assoc,qHA,qHE,Nat.min_self,qha hx,qjr,mSt,kp,Nat.zero_lt_one,lv,qiP]
theorem qoK {t:List D} {O:Int}  (h:t.length+10≤1000000):qf pg 180 [.ptr 0 0,.d (.i .i64 O)] [.cells [.osl (x::t)]]=some ⟨false,false,.tup [],[.cells [.osl (x::(t++qls O))]],0⟩:=by
 have hT:∀k,(k≤10)=True→t.length+k≤1000000:=fun k hk=>by
  have hk:k≤10:=of_eq_true hk
  omega
 rw [qk (fn:=kU) rfl rfl]
 simp only [kX,kU,qHB,Nat.reduceAdd,qHt,qHv,qHx,qHG,qHw,Nat.reduceLeDiff,hT,qlD hx,qbe,mLd,ln,Int.reduceNeg,Nat.min_zero,reduceCtorEq,qHH,Nat.add_assoc,qku hx,qgH,List.append_assoc,qHA,qHE,Nat.min_self,Nat.reduceEqDiff,Int.reduceLE,qpw hx,qbQ,k9 hx,kp,qha hx,qjr,mSt,Nat.zero_lt_one,lv,qls]
theorem qzm {t:List D} {K:Int}  (h:t.length+2≤1000000):qf pg 183 [.ptr 0 0,.d (.i .i32 K)] [.cells [.osl (x::t)]]=some ⟨false,false,.tup [],[.cells [.osl (x::(t++qmv K))]],0⟩:=by
 have hT:∀k,(k≤2)=True→t.length+k≤1000000:=fun k hk=>by
  have hk:k≤2:=of_eq_true hk
  omega
 rw [qk (fn:=jB) rfl rfl]
 simp only [kX,jB,qHB,Nat.reduceAdd,qHt,qHv,Nat.reduceEqDiff,reduceCtorEq,qHx,qHG,Nat.reduceLT,qHI,List.set_cons_succ,qHw,Nat.reduceLeDiff,hT,jL hx,ln,Int.reduceNeg,Nat.min_zero,Nat.zero_lt_one,lv,qmv]
theorem qug {t:List D}   (h:t.length+6≤1000000):qf pg 186 [.ptr 0 0] [.cells [.osl (x::t)]]=some ⟨false,false,.tup [],[.cells [.osl (x::(t++qcG))]],0⟩:=by
 have hT:∀k,(k≤6)=True→t.length+k≤1000000:=fun k hk=>by
  have hk:k≤6:=of_eq_true hk
  omega
 rw [qk (fn:=zE) rfl rfl]
 simp only [kX,zE,Int.reduceNeg,qHB,qHt,qHv,qHx,qHG,qHw,Int.reduceLE,Nat.reduceLeDiff,hT,k9 hx,kp,ln,Nat.min_zero,reduceCtorEq,qHH,Nat.add_assoc,Nat.reduceAdd,List.append_assoc,qHA,qHE,Nat.min_self,qcy hx,mLd,Nat.reduceLT,qHI,List.set_cons_succ,Nat.reduceEqDiff,jL hx,Nat.zero_lt_one,lv,qcG]
theorem qrl {t:List D}   (h:t.length+6≤1000000):qf pg 185 [.ptr 0 0,.d (.i .i32 0)] [.cells [.osl (x::t)]]=some ⟨false,false,.tup [],[.cells [.osl (x::(t++qjS 0))]],0⟩:=by
 have hT:∀k,(k≤6)=True→t.length+k≤1000000:=fun k hk=>by
  have hk:k≤6:=of_eq_true hk
  omega
 rw [qk (fn:=kn) rfl rfl]
 simp only [kX,kn,Int.reduceNeg,qHB,Nat.reduceAdd,qHt,qHv,qHx,qHG,qHw,Int.reduceLE,Nat.reduceLeDiff,hT,k9 hx,kp,ln,Nat.min_zero,reduceCtorEq,qHH,Nat.add_assoc,yJ hx,mSt,List.append_assoc,qHA,qHE,Nat.min_self,Nat.reduceEqDiff,qka,Bool.or_true,decide_true,↓reduceIte,Nat.zero_lt_one,lv,qjS]
theorem qma {t:List D} {A N:Int} (h0:0≤N) (h1:N≤65535) (h:t.length+2≤1000000):qf pg 55 [.ptr 0 0,.d (.i .i64 A),.d (.i .i32 N)] [.cells [.osl (x::t)]]=some ⟨false,false,.tup [],[.cells [.osl (x::(t++[kp 0 A 0 N]))]],0⟩:=by
 have hT:∀k,(k≤2)=True→t.length+k≤1000000:=fun k hk=>by
  have hk:k≤2:=of_eq_true hk
  omega
 have ha:(N≥-65536)=True:=eq_true (by omega)
 have hb:(N<65536)=True:=eq_true (by omega)
 have hw:wr .i64 N=N:=qep (by omega) (by omega)
 rw [qk (fn:=qw) rfl rfl]
 simp only [kX,qw,Int.reduceNeg,qHB,Nat.reduceAdd,qHt,qHv,reduceCtorEq,Nat.reduceEqDiff,Bool.or_true,ha,decide_true,↓reduceIte,hb,hw,qHx,qHG,qHw,h0,h1,Nat.reduceLeDiff,hT,k9 hx,kp,ln,Nat.min_zero,Nat.zero_lt_one,lv]
theorem qr1 {t:List D} {A N:Int} (h0:N<0) (h1:-65536≤N) (h:t.length+2≤1000000):qf pg 55 [.ptr 0 0,.d (.i .i64 A),.d (.i .i32 N)] [.cells [.osl (x::t)]]=some ⟨false,false,.tup [],[.cells [.osl (x::(t++[qog A N]))]],0⟩:=by
 have hT:∀k,(k≤2)=True→t.length+k≤1000000:=fun k hk=>by
  have hk:k≤2:=of_eq_true hk
  omega
 have ha:(N≥-65536)=True:=eq_true (by omega)
 have hb:(N<65536)=True:=eq_true (by omega)
 have hw:wr .i64 N=N:=qep (by omega) (by omega)
 rw [qk (fn:=qw) rfl rfl]
 simp only [kX,qw,Int.reduceNeg,qHB,Nat.reduceAdd,qHt,qHv,reduceCtorEq,Nat.reduceEqDiff,Bool.or_true,ha,decide_true,↓reduceIte,hb,hw,qHx,qHG,qHw,h0,Nat.reduceLeDiff,hT,qvu hx,ln,Nat.min_zero,Nat.zero_lt_one,lv,qog]
theorem qrX {t:List D} {N:Int} (h0:0<N) (h1:N≤1000) (h:t.length+13≤1000000):qf pg 185 [.ptr 0 0,.d (.i .i32 N)] [.cells [.osl (x::t)]]=some ⟨false,false,.tup [],[.cells [.osl (x::(t++(qjS N++qov N)))]],0⟩:=by
 have hT:∀k,(k≤13)=True→t.length+k≤1000000:=fun k hk=>by
  have hk:k≤13:=of_eq_true hk
  omega
 have hk:((N:Int)=0)=False:=eq_false (by omega)
 have kw:wr .i64 N=N:=qep (by omega) (by omega)
 rw [qk (fn:=kn) rfl rfl]
 simp only [kX,kn,Int.reduceNeg,qHB,Nat.reduceAdd,qHt,qHv,qHx,qHG,qHw,Int.reduceLE,Nat.reduceLeDiff,hT,k9 hx,kp,ln,Nat.min_zero,reduceCtorEq,qHH,Nat.add_assoc,yJ hx,mSt,List.append_assoc,qHA,qHE,Nat.min_self,Nat.reduceEqDiff,kw,Int.le_of_lt h0,Int.le_trans h1 (by decide:(1000:Int)≤65535),Bool.or_true,hk,decide_false,qHu,↓reduceIte,qma hx,qpw hx,qbQ,Nat.zero_lt_one,lv,qjS,qov]
theorem qwO {t:List D}   (h:t.length+5≤1000000):qf pg 117 [.ptr 0 0,.d (.i .i64 6)] [.cells [.osl (x::t)]]=some ⟨false,false,.tup [],[.cells [.osl (x::(t++qkl [kp 1 0 0 2,mLd 0 0 0]))]],0⟩:=by
 have hT:∀k,(k≤5)=True→t.length+k≤1000000:=fun k hk=>by
  have hk:k≤5:=of_eq_true hk
  omega
 rw [qk (fn:=kN) rfl rfl]
 simp only [kX,kN,Int.reduceNeg,qHB,Nat.reduceAdd,qHt,qHv,qHx,qHG,qHw,Int.reduceLE,Nat.reduceLeDiff,hT,qcy hx,mLd,ln,Nat.min_zero,Nat.reduceEqDiff,reduceCtorEq,Bool.or_true,Int.reduceEq,decide_false,qHu,↓reduceIte,decide_true,qHH,Nat.add_assoc,k9 hx,kp,List.append_assoc,qHA,qHE,Nat.min_self,kf,qpi,yJ hx,mSt,Nat.zero_lt_one,lv,qkl]
theorem quy {t:List D}   (h:t.length+5≤1000000):qf pg 117 [.ptr 0 0,.d (.i .i64 14)] [.cells [.osl (x::t)]]=some ⟨false,false,.tup [],[.cells [.osl (x::(t++qkl [kp 0 1 0 0,qgH 9 0 1 0]))]],0⟩:=by
 have hT:∀k,(k≤5)=True→t.length+k≤1000000:=fun k hk=>by
  have hk:k≤5:=of_eq_true hk
  omega
 rw [qk (fn:=kN) rfl rfl]
 simp only [kX,kN,Int.reduceNeg,qHB,Nat.reduceAdd,qHt,qHv,qHx,qHG,qHw,Int.reduceLE,Nat.reduceLeDiff,hT,qcy hx,mLd,ln,Nat.min_zero,Nat.reduceEqDiff,reduceCtorEq,Bool.or_true,decide_true,↓reduceIte,qHH,Nat.add_assoc,k9 hx,kp,List.append_assoc,qHA,qHE,Nat.min_self,qku hx,qgH,kf,qpi,yJ hx,mSt,Nat.zero_lt_one,lv,qkl]
theorem qqo {t:List D} {A:Int}  (h:t.length+3≤1000000):qf pg 55 [.ptr 0 0,.d (.i .i64 A),.d (.i .i32 65540)] [.cells [.osl (x::t)]]=some ⟨false,false,.tup [],[.cells [.osl (x::(t++qj0 A 4))]],0⟩:=by
 have hT:∀k,(k≤3)=True→t.length+k≤1000000:=fun k hk=>by
  have hk:k≤3:=of_eq_true hk
  omega
 have q1:qa8 .shr .num true (.d (.i .u32 65540)) (.d (.i .u64 16))=some (.d (.i .u32 1)):=by kernel_rfl
 have q2:qa8 .and .num true (.d (.i .u32 65540)) (.d (.i .u32 65535))=some (.d (.i .u32 4)):=by kernel_rfl
 have q3:wr .u32 65540=65540:=rfl
 rw [qk (fn:=qw) rfl rfl]
 simp only [kX,qw,Int.reduceNeg,qHB,Nat.reduceAdd,qHt,qHv,reduceCtorEq,Nat.reduceEqDiff,Bool.or_true,Int.reduceLE,decide_true,↓reduceIte,Int.reduceLT,decide_false,qHu,q3,q1,qFs,qHx,qHG,Nat.reduceLT,qHI,List.set_cons_succ,qHw,Nat.reduceLeDiff,hT,jL hx,ln,Nat.min_zero,q2,qka,qHH,Nat.add_assoc,k9 hx,kp,List.append_assoc,qHA,qHE,Nat.min_self,Nat.zero_lt_one,lv,qj0]
theorem qqA {t:List D} {A:Int}  (h:t.length+3≤1000000):qf pg 55 [.ptr 0 0,.d (.i .i64 A),.d (.i .i32 65541)] [.cells [.osl (x::t)]]=some ⟨false,false,.tup [],[.cells [.osl (x::(t++qj0 A 5))]],0⟩:=by
 have hT:∀k,(k≤3)=True→t.length+k≤1000000:=fun k hk=>by
  have hk:k≤3:=of_eq_true hk
  omega
 have q1:qa8 .shr .num true (.d (.i .u32 65541)) (.d (.i .u64 16))=some (.d (.i .u32 1)):=by kernel_rfl
 have q2:qa8 .and .num true (.d (.i .u32 65541)) (.d (.i .u32 65535))=some (.d (.i .u32 5)):=by kernel_rfl
 have q3:wr .u32 65541=65541:=rfl
 rw [qk (fn:=qw) rfl rfl]
 simp only [kX,qw,Int.reduceNeg,qHB,Nat.reduceAdd,qHt,qHv,reduceCtorEq,Nat.reduceEqDiff,Bool.or_true,Int.reduceLE,decide_true,↓reduceIte,Int.reduceLT,decide_false,qHu,q3,q1,qFs,qHx,qHG,Nat.reduceLT,qHI,List.set_cons_succ,qHw,Nat.reduceLeDiff,hT,jL hx,ln,Nat.min_zero,q2,qka,qHH,Nat.add_assoc,k9 hx,kp,List.append_assoc,qHA,qHE,Nat.min_self,Nat.zero_lt_one,lv,qj0]
theorem qwV {N:Int} (h0:0≤N) (h1:N≤1000):qjs x 1 N:=by
 intro t m hm h
 have hT:∀k,(k≤20)=True→t.length+k≤1000000:=fun k hk=>by
  have hk:k≤20:=of_eq_true hk
  omega
 have h2:N≤65535:=by omega
 have hw:wr .i64 N=N:=qep (by omega) (by omega)
 have hn:-65536≤N:=by omega
 have eg:leI 0 N=true:=by rw [z3];exact decide_eq_true (by omega)
 have eh:leI N 1000=true:=by rw [z3];exact decide_eq_true (by omega)
 simp only [qeg,qed,decide_true,eg,eh,qHw,kp,ln,Int.reduceNeg,yU,mSt,qj0,qHA,qHE,z3,hn,qHC,Bool.and_false,qog,Bool.cond_false,Bool.cond_decide,Bool.cond_true,Int.reduceEq,decide_false,qmq,mLd,qfd,qkl,qbe,qeI,Int.reduceMul,qiP,qgH,qjr,qls,qbQ,qjS,qov,qcG,qmv] at hm
 cases hm
 rw [qk (fn:=qn) rfl rfl]
 simp only [kX,qn,Int.reduceNeg,qHB,Nat.reduceAdd,qHt,qHv,reduceCtorEq,qHx,qHG,qHw,Nat.add_zero,Nat.reduceEqDiff,qHD,qHz,Bool.or_true,decide_true,↓reduceIte,List.getElem?_cons_succ,h0,h2,Nat.reduceLeDiff,hT,qma hx,kp,ln,Nat.min_zero,qHH,Nat.add_assoc,qeB hx,yU,mSt,List.append_assoc,qHA,qHE,Nat.min_self,Nat.zero_lt_one,lv]
theorem qxb {N:Int} (h0:N<0) (h1:-65536≤N):qjs x 1 N:=by
 intro t m hm h
 have hT:∀k,(k≤20)=True→t.length+k≤1000000:=fun k hk=>by
  have hk:k≤20:=of_eq_true hk
  omega
 have eg:leI 0 N=false:=by rw [z3];exact decide_eq_false (by omega)
 have eh:leI (-65536) N=true:=by rw [z3];exact decide_eq_true (by omega)
 have en1:(N=65540)=False:=eq_false (by omega)
 have en2:(N=65541)=False:=eq_false (by omega)
 simp only [qeg,qed,decide_true,eg,Bool.false_and,kp,ln,Int.reduceNeg,yU,mSt,en1,decide_false,qj0,qHA,qHE,en2,eh,Bool.not_false,qHw,qog,Bool.cond_true,Bool.cond_false,Int.reduceEq,qmq,mLd,qfd,qkl,qbe,qeI,Int.reduceMul,qiP,qgH,qjr,qls,qbQ,qjS,qov,Bool.cond_decide,qcG,qmv] at hm
 cases hm
 rw [qk (fn:=qn) rfl rfl]
 simp only [kX,qn,Int.reduceNeg,qHB,Nat.reduceAdd,qHt,qHv,reduceCtorEq,qHx,qHG,qHw,Nat.add_zero,Nat.reduceEqDiff,qHD,qHz,Bool.or_true,decide_true,↓reduceIte,List.getElem?_cons_succ,h0,h1,Nat.reduceLeDiff,hT,qr1 hx,qog,ln,Nat.min_zero,qHH,Nat.add_assoc,qeB hx,yU,mSt,kp,List.append_assoc,qHA,qHE,Nat.min_self,Nat.zero_lt_one,lv]
theorem qtJ   : qjs x 1 65540:=by
 intro t m hm h
 have hT:∀k,(k≤20)=True→t.length+k≤1000000:=fun k hk=>by
  have hk:k≤20:=of_eq_true hk
  omega
 simp only [qeg,qed,decide_true,z3,Int.reduceLE,decide_false,Bool.and_false,kp,ln,Int.reduceNeg,yU,mSt,qj0,qHA,qHE,Int.reduceEq,qHC,qog,Int.reduceAdd,Bool.cond_false,Bool.cond_true,Bool.not_false,qmq,mLd,qfd,qkl,qbe,qeI,Int.reduceMul,qiP,qgH,qjr,qls,qbQ,qjS,qov,qcG,qmv] at hm
 cases hm
 rw [qk (fn:=qn) rfl rfl]
 simp only [kX,qn,Int.reduceNeg,qHB,Nat.reduceAdd,qHt,qHv,reduceCtorEq,qHx,qHG,qHw,Nat.add_zero,Nat.reduceEqDiff,qHD,qHz,Bool.or_true,decide_true,↓reduceIte,List.getElem?_cons_succ,Int.reduceLE,Nat.reduceLeDiff,hT,qqo hx,qj0,ln,kp,Nat.min_zero,qHH,Nat.add_assoc,qeB hx,yU,mSt,List.append_assoc,qHA,qHE,Nat.min_self,Nat.zero_lt_one,lv]
theorem qsV   : qjs x 1 65541:=by
 intro t m hm h
 have hT:∀k,(k≤20)=True→t.length+k≤1000000:=fun k hk=>by
  have hk:k≤20:=of_eq_true hk
  omega
 simp only [qeg,qed,decide_true,z3,Int.reduceLE,decide_false,Bool.and_false,kp,ln,Int.reduceNeg,yU,mSt,Int.reduceEq,qj0,qHA,qHE,qHC,qog,Int.reduceAdd,Bool.cond_false,Bool.cond_true,Bool.not_false,qmq,mLd,qfd,qkl,qbe,qeI,Int.reduceMul,qiP,qgH,qjr,qls,qbQ,qjS,qov,qcG,qmv] at hm
 cases hm
 rw [qk (fn:=qn) rfl rfl]
 simp only [kX,qn,Int.reduceNeg,qHB,Nat.reduceAdd,qHt,qHv,reduceCtorEq,qHx,qHG,qHw,Nat.add_zero,Nat.reduceEqDiff,qHD,qHz,Bool.or_true,decide_true,↓reduceIte,List.getElem?_cons_succ,Int.reduceLE,Nat.reduceLeDiff,hT,qqA hx,qj0,ln,kp,Nat.min_zero,qHH,Nat.add_assoc,qeB hx,yU,mSt,List.append_assoc,qHA,qHE,Nat.min_self,Nat.zero_lt_one,lv]
theorem qt5   : qjs x 28 0:=by
 intro t m hm h
 have hT:∀k,(k≤20)=True→t.length+k≤1000000:=fun k hk=>by
  have hk:k≤20:=of_eq_true hk
  omega
 simp only [qeg,qed,Int.reduceEq,decide_false,z3,Int.reduceLE,decide_true,qHw,kp,ln,Int.reduceNeg,yU,mSt,qj0,qHA,qHE,qHC,Bool.and_false,qog,Int.reduceAdd,Bool.cond_false,Bool.cond_true,qmq,mLd,qfd,qkl,qbe,qeI,Int.reduceMul,qiP,qgH,qjr,qls,qbQ,qjS,qov,qcG,qmv] at hm
 cases hm
 rw [qk (fn:=qn) rfl rfl]
 simp only [kX,qn,Int.reduceNeg,qHB,Nat.reduceAdd,qHt,qHv,reduceCtorEq,qHx,qHG,qHw,Nat.add_zero,Nat.reduceEqDiff,qHD,qHz,Bool.or_true,Int.reduceEq,decide_false,qHu,↓reduceIte,Int.reduceLE,decide_true,qmA,Nat.reduceLeDiff,List.drop_zero,List.take_succ_cons,List.take_zero,qzE,f_genrisc_gen_leads,List.getElem?_cons_succ,hT,qrl hx,qjS,kp,ln,mSt,Nat.min_zero,Nat.zero_lt_one,lv]
theorem qwM {N:Int} (h0:0<N) (h1:N≤1000):qjs x 28 N:=by
 intro t m hm h
 have hT:∀k,(k≤20)=True→t.length+k≤1000000:=fun k hk=>by
  have hk:k≤20:=of_eq_true hk
  omega
 have hz:(N=0)=False:=eq_false (by omega)
 have eg:leI 0 N=true:=by rw [z3];exact decide_eq_true (by omega)
 have eh:leI N 1000=true:=by rw [z3];exact decide_eq_true (by omega)
 simp only [qeg,qed,Int.reduceEq,decide_false,eg,eh,qHw,kp,ln,Int.reduceNeg,yU,mSt,qj0,qHA,qHE,z3,qHC,Bool.and_false,qog,Bool.cond_false,Bool.cond_decide,Bool.cond_true,qmq,mLd,qfd,qkl,qbe,qeI,Int.reduceMul,qiP,qgH,qjr,qls,qbQ,decide_true,hz,qjS,qov,qcG,qmv] at hm
 cases hm
 rw [qk (fn:=qn) rfl rfl]
 simp only [kX,qn,Int.reduceNeg,qHB,Nat.reduceAdd,qHt,qHv,reduceCtorEq,qHx,qHG,qHw,Nat.add_zero,Nat.reduceEqDiff,qHD,qHz,Bool.or_true,Int.reduceEq,decide_false,qHu,↓reduceIte,Int.reduceLE,decide_true,qmA,Nat.reduceLeDiff,List.drop_zero,List.take_succ_cons,List.take_zero,qzE,f_genrisc_gen_leads,List.getElem?_cons_succ,h0,h1,hT,qrX hx,qjS,kp,ln,mSt,qov,qbQ,qHA,qHE,Nat.min_zero,Nat.zero_lt_one,lv]
omit hx in
theorem qvW {op k:Int} {m:List D} (h1:op≠1) (h:qeg op k=some m):0≤k∧k≤1000:=by
 have e1:eqI op 1=false:=by rw [qed];exact decide_eq_false h1
 unfold qeg at h
 rw [e1,cond_false] at h
 cases hb:(leI 0 k && leI k 1000) with
 | true=>
  simp only [qHo,z3,decide_eq_true_eq] at hb
  exact hb
 | false=>rw [hb] at h;cases h
theorem qEr {op k:Int} {m:List D} (h:qeg op k=some m):qjs x op k:=by
 by_cases q1:op=1
 ·subst q1
  by_cases a:0≤k∧k≤1000
  ·exact qwV hx a.1 a.2
  by_cases b:k=65540
  ·subst b;exact qtJ hx
  by_cases c:k=65541
  ·subst c;exact qsV hx
  by_cases d:k<0∧-65536≤k
  ·exact qxb hx d.1 d.2
  exfalso
  unfold qeg at h
  have e1:(leI 0 k && leI k 1000)=false:=by simp only [z3,Bool.and_eq_false_iff,decide_eq_false_iff_not];omega
  have e2:(leI (-65536) k && !leI 0 k)=false:=by simp only [z3,Bool.and_eq_false_iff,Bool.not_eq_false',decide_eq_false_iff_not,decide_eq_true_eq];omega
  have e3:eqI k 65540=false:=by rw [qed];exact decide_eq_false b
  have e4:eqI k 65541=false:=by rw [qed];exact decide_eq_false c
  rw [e1,e2,e3,e4] at h
  cases h
 obtain ⟨h0,h1⟩:=qvW q1 h
 by_cases q28:op=28
 ·subst q28
  by_cases z:k=0
  ·subst z;exact qt5 hx
  ·exact qwM hx (by omega) h1
 have eg:leI 0 k=true:=by rw [z3];exact decide_eq_true h0
 have eh:leI k 1000=true:=by rw [z3];exact decide_eq_true h1
 have hop:op=0∨op=2∨op=3∨op=4∨op=5∨op=6∨op=7∨op=9∨op=10∨op=12∨op=13∨op=14∨op=15∨op=19∨op=20∨op=22∨op=23∨op=24∨op=25∨op=26∨op=27∨op=29∨op=30∨op=33:=by
  refine Decidable.byContradiction fun hn=>?_
  simp only [not_or] at hn
  obtain ⟨q0,q2,q3,q4,q5,q6,q7,q9,q10,q12,q13,q14,q15,q19,q20,q22,q23,q24,q25,q26,q27,q29,q30,q33⟩:=hn
  unfold qeg at h
  simp only [qed,eg,eh,qHw,qHC,Bool.cond_false,Bool.cond_decide,q1,q28,q0,q2,q3,q4,q5,q6,q7,q9,q10,q12,q13,q14,q15,q19,q20,q22,q23,q24,q25,q26,q27,q29,q30,q33,if_false] at h
  cases h
 have h2:k≤65535:=by omega
 have hw:wr .i64 k=k:=qep (by omega) (by omega)
 have hn:-65536≤k:=by omega
 clear h
 intro t m hm h
 have hT:∀k,(k≤20)=True→t.length+k≤1000000:=fun k hk=>by
  have hk:k≤20:=of_eq_true hk
  omega
 rcases hop with rfl|rfl|rfl|rfl|rfl|rfl|rfl|rfl|rfl|rfl|rfl|rfl|rfl|rfl|rfl|rfl|rfl|rfl|rfl|rfl|rfl|rfl|rfl|rfl
 all_goals
  simp only [qeg,qed,Int.reduceEq,decide_false,eg,eh,qHw,kp,ln,Int.reduceNeg,yU,mSt,qj0,qHA,qHE,z3,qHC,Bool.and_false,qog,Bool.cond_false,Bool.cond_decide,Bool.cond_true,qmq,mLd,qfd,qkl,qbe,qeI,Int.reduceMul,qiP,qgH,qjr,qls,qbQ,qjS,qov,qcG,qmv,decide_true] at hm
  cases hm
  rw [qk (fn:=qn) rfl rfl]
  simp only [kX,qn,Int.reduceNeg,qHB,Nat.reduceAdd,qHt,qHv,reduceCtorEq,qHx,qHG,qHw,Nat.add_zero,Nat.reduceEqDiff,qHD,qHz,Bool.or_true,Int.reduceEq,decide_false,qHu,↓reduceIte,Int.reduceLE,qis,qA9,Nat.reduceLeDiff,List.drop_zero,List.take_succ_cons,List.take_zero,qzE,f_genrisc_gen_leads,decide_true,hT,qzm hx,qmv,ln,Nat.min_zero,Nat.zero_lt_one,lv,qcy hx,mLd,qHH,Nat.add_assoc,qeB hx,yU,mSt,kp,List.append_assoc,qHA,qHE,Nat.min_self,qo0 hx,qeI,Int.reduceMul,qlD hx,qbe,yJ hx,List.getElem?_cons_succ,hw,h0,h2,k9 hx,qwO hx,qkl,qmA,qF6,f_genrisc_gen_reckon,qFK,f_genrisc_operation,qsW,qeq,qlx,qtM,qjz,qrY,lvd,qzj hx,qiP,qgH,qjr,qku hx,Nat.reduceLT,qHI,List.set_cons_succ,jL hx,qha hx,quy hx,qoK hx,qls,qbQ,qvH hx,qfd,qyT hx,qmq,qug hx,qcG]
end
end W
/- A call of no arguments whose result is data is the same beside whatever objects there are. -/
set_option linter.unusedSimpArgs false
set_option linter.unusedVariables false
namespace W
open Go (World Value Addr IntKind Program TypeId FuncId)
end W
/- Calls whose arguments and results are data, known beforehand (by the kernel), stand in for the functions' code. -/
set_option linter.unusedSimpArgs false
set_option linter.unusedVariables false
namespace W
open Go (World Value Addr IntKind Program TypeId FuncId)
inductive Out where
 | one (x:D)
 | tup (l:List D)
def Out.v:Out→V
 | .one x=>.d x
 | .tup l=>.tup (l.map .d)
structure Ent where
 f:Nat
 a:List D
 r:Out
def pick (i:Nat) (vs:List V):List Ent→Option Ent
 | []=>none
 | e::T=>bif qHm e.f i && qup vs e.a then some e else pick i vs T
def qlf (T:List Ent) (i:Nat) (vs:List V) (H:List Obj):Option Cr:=match pick i vs T with
 | some e=>some ⟨false,true,e.r.v,H,H.length⟩
 | none=>none
def Ent.is (r:Option Cr):Out→Bool
 | .one x=>isD r x
 | .tup l=>qxy r l
def Ent.Ok (pg:Pg) (e:Ent):Prop:=∃lo,qf pg e.f (e.a.map .d) []=some ⟨false,true,e.r.v,[],lo⟩
theorem qy {pg:Pg} (hx:qD pg.ext) {N f:Nat} {l:List D} {r:Out} (h:Ent.is (qd2 pg N f (l.map .d) []) r=true):Ent.Ok pg ⟨f,l,r⟩:=by
 cases r with
 | one x=>exact qyo hx h
 | tup l=>exact qtD hx h
theorem qo4 {i:Nat} {vs:List V} {e:Ent}:∀{T:List Ent},pick i vs T=some e→e ∈ T∧e.f=i∧vs=e.a.map .d
 | [],h=>by cases h
 | q::T,h=>by
  unfold pick at h
  rw [qHn] at h
  split at h
  ·rename_i hb
   cases h
   simp only [qHo] at hb
   exact ⟨.head _,qHr hb.1,qpT hb.2⟩
  ·obtain ⟨h1,h2⟩:=qo4 h
   exact ⟨.tail _ h1,h2⟩
theorem qk0 {T:List Ent}:qD (qlf T):=fun i vs H r h=>by
 unfold qlf at h
 split at h
 ·cases h
  exact ⟨qHq _,fun _ _ _=>rfl,fun _=>rfl⟩
 ·cases h
theorem qBu {M:Maps} {g g':Gh} {w w':World} (e:g'.pub=g.pub) (ew:w'=w):∀{l:List D} {vs:List Value},RepSL M g w (l.map .d) vs→RepSL M g' w' (l.map .d) vs
 | [],_,h=>by cases h;exact .nil
 | x::l,_,h=>by
  rw [qHx] at h ⊢
  cases h with
  | cons _ _ _ _ h0 h=>
   refine .cons _ _ _ _ ?_ (qBu e ew h)
   cases h0 with
   | d _ _ hr=>exact .d _ _ (by rw [e,ew];exact hr)
theorem qBb {P:Program} {M:Maps} {pg:Pg} (hsim:∀n,qB P M (zt pg n)) {e:Ent} (h:e.Ok pg)
  {f':FuncId} (hl:look M.fm f'=some e.f) {g:Gh} {w:World} {H:List Obj} (hH:RelH M g w H) {argv:List Value} (ha:ArgsRep M g w 0 (e.a.map .d) argv):qqb P f' argv.toArray w (qG M g w ⟨false,true,e.r.v,H,H.length⟩):=by
 obtain ⟨lo,h⟩:=h
 obtain ⟨n,hn⟩:=zL.1 h
 refine qna (hsim n) hn rfl (fun {g1 g2 w' c} ep hA=>?_) hl hH ha
 revert hA
 cases e.r with
 | one x=>
  intro hA
  cases hA with
  | s hA=>cases hA with
   | d _ _ hr=>exact .s (.d _ _ (by rw [ep];exact hr))
 | tup l=>
  intro hA
  cases hA with
  | s hA=>cases hA with
   | tup _ _ hr=>exact .s (.tup _ _ (qBu ep rfl hr))
theorem qhO {P:Program} {M:Maps} {T:List Ent} (hT:∀e ∈ T,∃pg,(∀n,qB P M (zt pg n))∧e.Ok pg):qB P M (qlf T):=by
 intro i vs H r h f' hl g w argv ha hH
 unfold qlf at h
 split at h
 ·rename_i e he
  cases h
  obtain ⟨h1,rfl,rfl⟩:=qo4 he
  obtain ⟨pg,hsim,hok⟩:=hT e h1
  exact qBb hsim hok hl hH ha
 ·cases h
end W
namespace W
set_option maxRecDepth 100000
structure InR where
 x:D
 w:Int
def q (f u v a b o c i w:Int):InR:=⟨.agg [.i .i64 f,.b (eqI u 1),.b (eqI v 1),.i .i64 a,.i .i64 b,.i .i64 o,.i .i64 c,.i .i32 i],w⟩
def rlI:List InR:=[q 2 0 0 0 13 0 0 (-4) 2162163708,
 q 2 1 0 0 13 0 0 0 2697986048,
 q 1 0 0 13 13 0 8 4 1306001412,
 q 2 0 0 1 13 0 0 (-8) 2178940920,
 q 1 0 0 13 13 0 9 4 1306066948,
 q 2 1 0 0 13 0 0 (-4) 2699034620,
 q 1 0 0 0 0 0 1 2 1073807362,
 q 2 0 0 0 0 0 0 0 2147483648,
 q 2 1 0 1 13 0 0 (-8) 2715811832,
 q 1 0 0 0 12 0 8 1 1086849025,
 q 2 0 0 0 13 0 0 0 2161115136,
 q 1 0 0 1 1 0 1 2 1091633154,
 q 2 1 0 0 1 0 0 0 2685403136,
 q 1 0 0 13 13 0 9 8 1306066952,
 q 1 0 0 0 12 0 8 0 1086849024,
 q 1 0 0 1 0 0 0 0 1090519040,
 q 0 0 0 1 1 0 8 0 18350080,
 q 2 1 0 0 13 0 0 (-8) 2699034616,
 q 2 1 0 1 13 0 0 (-4) 2715811836,
 q 2 1 0 3 0 0 0 0 2734686208,
 q 1 0 0 0 0 0 8 4 1074266116,
 q 1 0 0 1 1 0 9 1 1092157441,
 q 3 1 0 9 0 0 0 (-4) 3925868540,
 q 1 0 0 0 0 0 0 1 1073741825,
 q 2 1 0 0 1 0 0 (-64) 2686451648,
 q 1 0 0 0 0 0 0 4 1073741828,
 q 0 0 0 1 1 0 9 0 18415616,
 q 1 0 0 2 12 0 1 2 1119944706,
 q 1 0 0 11 12 0 9 2 1271463938,
 q 2 0 0 15 2 0 0 (-8) 2402287608,
 q 2 0 0 12 2 0 0 (-4) 2351955964,
 q 3 0 0 7 0 15 0 0 3338665999,
 q 3 1 0 7 0 0 0 1 3875536897,
 q 1 0 0 1 0 0 0 1 1090519041,
 q 1 0 0 0 0 0 0 0 1073741824,
 q 1 0 0 2 11 0 1 2 1118896130,
 q 2 1 0 15 2 0 0 0 2938109952,
 q 2 1 0 12 2 0 0 4 2887778308,
 q 1 0 0 12 11 0 8 2 1287127042,
 q 1 0 0 0 12 0 1 2 1086390274,
 q 1 0 0 3 0 0 0 0 1124073472,
 q 1 0 0 11 12 0 8 2 1271398402,
 q 1 0 0 1 0 0 0 2 1090519042,
 q 3 1 0 1 0 0 0 2 3774873602,
 q 3 1 0 5 0 0 0 2 3841982466,
 q 1 0 0 0 0 0 0 2 1073741826,
 q 0 0 0 1 1 0 4 0 18087936,
 q 1 0 0 0 12 0 8 2 1086849026,
 q 1 0 0 0 0 0 0 10 1073741834,
 q 0 0 0 1 1 0 11 0 18546688,
 q 1 0 0 0 0 0 0 5 1073741829,
 q 1 0 1 0 0 0 0 65504 1342242784,
 q 1 0 0 0 0 0 0 52 1073741876,
 q 1 0 1 0 0 0 0 65535 1342242815,
 q 3 1 0 1 0 0 0 51 3774873651,
 q 3 0 1 7 0 12 0 1 3607101468,
 q 3 1 0 6 0 0 0 2 3858759682,
 q 0 0 0 1 1 0 1 0 17891328,
 q 1 0 0 0 0 0 0 56 1073741880,
 q 0 1 0 1 0 0 0 0 553648128,
 q 1 0 0 0 0 0 0 48 1073741872,
 q 3 1 0 1 0 0 0 1 3774873601,
 q 3 1 0 7 0 0 0 (-61) 3892314051,
 q 1 0 0 11 12 0 8 0 1271398400,
 q 1 0 0 11 12 0 8 13 1271398413,
 q 1 0 0 1 0 0 0 13 1090519053,
 q 3 1 0 1 0 0 0 127 3774873727,
 q 1 0 0 13 0 0 0 916 1291846548,
 q 1 0 0 11 0 0 0 5 1258291205,
 q 1 0 0 12 0 0 0 5 1275068421,
 q 3 0 1 7 0 12 0 5 3607101532,
 q 3 0 1 7 0 12 0 0 3607101452,
 q 3 1 0 7 0 0 0 (-109) 3892314003,
 q 3 0 1 7 0 12 0 2 3607101484,
 q 3 0 1 7 0 12 0 3 3607101500,
 q 3 0 1 7 0 12 0 4 3607101516,
 q 3 0 1 7 0 12 0 6 3607101548,
 q 3 0 1 7 0 12 0 7 3607101564,
 q 3 0 1 7 0 12 0 8 3607101580,
 q 3 0 1 7 0 12 0 9 3607101596,
 q 3 1 0 1 0 0 0 (-71) 3791650745,
 q 3 1 0 1 0 0 0 (-93) 3791650723,
 q 3 1 0 1 0 0 0 99 3774873699,
 q 3 1 0 1 0 0 0 66 3774873666,
 q 3 1 0 1 0 0 0 8 3774873608,
 q 1 0 0 0 0 0 0 3 1073741827,
 q 3 1 0 7 0 0 0 (-76) 3892314036,
 q 3 1 0 1 0 0 0 (-325) 3791650491,
 q 3 1 0 1 0 0 0 32 3774873632,
 q 0 0 0 1 1 0 2 0 17956864,
 q 3 1 0 1 0 0 0 (-561) 3791650255,
 q 3 1 0 1 0 0 0 (-591) 3791650225,
 q 3 1 0 1 0 0 0 40 3774873640,
 q 1 0 0 0 0 0 0 45 1073741869,
 q 0 0 0 0 1 0 9 0 1638400,
 q 3 1 0 1 0 0 0 75 3774873675,
 q 1 0 0 0 0 0 0 50 1073741874,
 q 1 0 0 0 0 0 0 49 1073741873,
 q 1 0 0 0 0 0 0 55 1073741879,
 q 1 0 0 0 0 0 0 51 1073741875,
 q 1 0 0 0 0 0 0 54 1073741878,
 q 3 1 0 1 0 0 0 77 3774873677,
 q 3 1 0 1 0 0 0 59 3774873659,
 q 3 1 0 7 0 0 0 (-86) 3892314026,
 q 3 1 1 7 0 0 0 672 4143973024,
 q 3 1 1 7 0 0 0 694 4143973046,
 q 3 1 0 1 0 0 0 6 3774873606,
 q 1 1 0 13 0 0 0 4 1828716548,
 q 1 1 0 11 0 0 0 1 1795162113,
 q 1 1 0 12 0 0 0 1 1811939329,
 q 1 1 0 0 0 0 0 1 1610612737,
 q 1 0 0 13 13 0 6 912 1305871248,
 q 1 0 0 11 11 0 6 4 1270218756,
 q 1 0 0 12 12 0 6 4 1288044548,
 q 1 0 0 0 0 0 6 4 1074135044,
 q 1 0 0 13 13 0 6 916 1305871252,
 q 1 0 0 11 11 0 6 5 1270218757,
 q 1 0 0 12 12 0 6 5 1288044549,
 q 1 0 0 0 0 0 6 5 1074135045]
def rlE:List Ent:=rlI.map fun p=>⟨122,[p.x],.tup [.i .u32 p.w,.i .i64 0]⟩
def pgE:Pg:=⟨fun n=>bif qHm n 122 then none else pg.fn n,fun i vs H=>bif qHm i 333 then ixX vs H else qlf rlE i vs H⟩
theorem qp6:qD pgE.ext:=fun i vs H r h=>by
 simp only [pgE,qHn] at h
 split at h
 ·exact qp8 i vs H r h
 ·exact qk0 i vs H r h
end W
/- Words out of what was laid; what stands in for the two functions in kernel runs. -/
set_option linter.unusedSimpArgs false
set_option linter.unusedVariables false
namespace W
open Go (IntKind BinOp UnOp)
set_option maxRecDepth 20000
def qzP (x:D):Option Int:=match pick 122 [.d x] rlE with
 | some ⟨_,_,.tup [.i .u32 w,.i .i64 (.ofNat 0)]⟩=>some w
 | _=>none
noncomputable def qjF (starts:List D):List D→Nat→List Int→Option (List Int)
 | [],_,acc=>some acc.reverse
 | .agg [.i .i64 F,.b U,.b X,.i .i64 A,.i .i64 B,.i .i64 C,.i .i64 O,.i .i32 I,.i .i64 to]::l,i,acc=>
  bif leI 0 to then (match starts[to.toNat]? with
   | some (.i .i64 s)=>(match qzP (.agg [.i .i64 F,.b U,.b X,.i .i64 A,.i .i64 B,.i .i64 C,.i .i64 O,.i .i32 (wr .i32 (wr .i64 (wr .i64 (s - i) - 1)))]) with
    | some w=>qt (Nat.succ i) fun i=>qjF starts l i (w::acc)
    | none=>none)
   | _=>none)
  else (match qzP (.agg [.i .i64 F,.b U,.b X,.i .i64 A,.i .i64 B,.i .i64 C,.i .i64 O,.i .i32 I]) with
    | some w=>qt (Nat.succ i) fun i=>qjF starts l i (w::acc)
    | none=>none)
 | _::_,_,_=>none
def wU (w:Int):D:=.i .u32 w
theorem qsb {x:D} {w:Int} {H:List Obj} (h:qzP x=some w):qf pgE 122 [.d x] H=some ⟨false,true,.tup [.d (.i .u32 w),.d (.i .i64 0)],H,H.length⟩:=by
 unfold qzP at h
 split at h
 ·rename_i hp
  cases h
  rw [qk6]
  have hf:pgE.fn 122=none:=rfl
  simp only [qx,hf]
  show qlf rlE 122 [.d x] H=_
  simp only [qlf,hp,Out.v,qHx,qHG]
  rfl
 ·cases h
noncomputable def wl0 (v1 v6 v14 v15 v16:V) (H:List Obj) (lo:Nat):Option (Ex × St):=exL pgE ki ⟨[(1,v1),(6,v6),(14,v14),(15,v15),(16,v16)],H,lo⟩
theorem qta {e:Env} {H:List Obj} {lo:Nat}:exL pgE ki ⟨e,H,lo⟩=wl0 (yX (get 1 e)) (yX (get 6 e)) (yX (get 14 e)) (yX (get 15 e)) (yX (get 16 e)) H lo:=qAO
theorem qtd {v1 v6 v14 v15 v16:V} {H:List Obj} {lo:Nat}:wl0 v1 v6 v14 v15 v16 H lo=qpg pgE (exL pgE kj ⟨[(1,yX v1),(6,yX v6),(14,yX v14),(15,yX v15),(16,yX v16)],H,lo⟩) ki:=by
 unfold wl0 ki;rw [zw];simp only [kf,jZ,qhf,qhy,Nat.reduceEqDiff]
theorem qth {l starts:List D} {H:List Obj} (hl:l.length≤1000000):∀(l2 l1:List D) (acc r:List Int),l=l1++l2→acc.length≤l1.length→qjF starts l2 l1.length acc=some r→
  ∃e,wl0 (.osl starts) (slV wU acc.reverse) (.d (.sl l)) (.d (.i .i64 (l.length:Int))) (.d (.i .i64 (l1.length:Int))) H H.length=some (.exit 0,⟨e,H,H.length⟩)∧get 6 e=slV wU r:=by
 intro l2
 induction l2 with
 | nil=>
  intro l1 acc r he ha h
  simp only [qjF,Option.some.injEq] at h
  subst h
  have hlt:((l1.length:Int)<(l.length:Int))=False:=by rw [he];simp
  rw [qtd]
  simp only [kj,k_,e_,m_,x_,o_,s_,z_,a_,d_,g_,h_,l_,c_,r_,v_,qiJ,qix,qkA,qiH,qiz,qe6,qet,qsl,Bool.or_self,qwU,Nat.reduceEqDiff,qhy,qhf,qiw,qk4,hlt,decide_false,qeA,qlN,qph,qaO,qcA,qgW,qkg,qHu,↓reduceIte,qsj,qnT]
  exact ⟨_,rfl,rfl⟩
 | cons y l2 ih=>
  intro l1 acc r he ha h
  have hlt:((l1.length:Int)<(l.length:Int))=True:=by rw [he];simp;omega
  have hll:l1.length<l.length:=by rw [he];simp
  have hw1:wr .i64 ((l1.length:Int)+1)=((l1++[y]).length:Int):=by simp;rw [qep (by omega) (by omega)]
  have hx:iaV (.d (.sl l)) (.d (.i .i64 (l1.length:Int))) 9 none=(bif qHm y.cells.length 9 then some (.cp y) else none):=by
   have:l[l1.length]?=some y:=by rw [he];simp
   simp only [iaV]
   simp [this,z3]
  have ap:∀w,zx 1 4 (slV wU acc.reverse) (.d (.sl [.i .u32 w]))=some (slV wU (w::acc).reverse):=fun w=>by
   rw [List.reverse_cons]
   exact qzd (e:=wU) (x:=w) (fun _=>rfl) (by unfold roomy;simp;omega)
  have hs:∀i:Nat,Nat.succ l1.length=(l1++[y]).length:=fun _=>by simp
  unfold qjF at h
  split at h
  ·rename_i heq;cases heq
  ·rename_i F U X A B C O I to tl heq
   cases heq
   cases ht:leI 0 to with
   | true=>
    rw [ht,cond_true] at h
    split at h
    ·rename_i s hst
     split at h
     ·rename_i w hw
      rw [qR,hs 0] at h
      have hto:(to≥0)=True:=by rw [z3,decide_eq_true_eq] at ht;exact eq_true ht
      have hix:iaV (.d (.sl starts)) (.d (.i .i64 to)) 1 none=some (.cp (.i .i64 s)):=qE7 (by rw [z3,decide_eq_true_eq] at ht;exact ht) hst (eq_true rfl)
      obtain ⟨e,h1,h2⟩:=ih (l1++[_]) _ r (by rw [he];simp) (by simp;omega) h
      refine ⟨e,?_,h2⟩
      rw [←h1]
      rw [qtd]
      simp only [kj,k_,e_,m_,x_,o_,s_,z_,a_,d_,g_,h_,l_,c_,r_,v_,qiJ,qix,qkA,qiH,qiz,qe6,qet,qsl,Bool.or_self,qwU,Nat.reduceEqDiff,qhy,qhf,qiw,qk4,hlt,decide_true,qeA,qlN,qph,qaO,qcA,qgW,qkg,↓reduceIte,qkC,qe3,qeL,qkp,qgd,hx,qdq,qHt,qHv,qHB,Nat.reduceAdd,qkH,cond_true,qyu,qdn,qso,qj6,qft,qHx,qHG,qmK,qdJ,qmC,qrs,qlp,qpl,qfu,qbk,qiL,qlw,qiu,qiq,qqR,quz,qxB,qkt,qHw,qjV,qfw,qhp,qkx,jm,qqN,qtx,qkk,qkB,qqf,List.getElem?_cons_succ,qHD,qHz,qmH,quL,Bool.or_true,qzu,qpZ,hto,qew,hix,qui,quP,qjY,Nat.add_zero,quB,qqc,qk8,qrA,Nat.reduceLT,qjJ,List.set_cons_succ,qHI,Nat.reduceLeDiff,qqx,List.drop_zero,List.take_succ_cons,List.take_zero,qki,qpL,qk2,qfz,qiA,qfT,qa1,qkU,qcm,qmB,qsb hw,qfF,qa0,qco,Nat.min_self,qmF,qis,qeh,qun,qtX,qsY,qpK,qHC,qHu,qpr,quV,zS,qrm,List.reduceReplicate,qcR,qfk,qhr,qy4,qkI,qhz,qmJ,qb4,ap,qiK,qfY,kf,jZ,qmI,hw1,qHH,qta]
     ·cases h
    ·cases h
   | false=>
    rw [ht,cond_false] at h
    split at h
    ·rename_i w hw
     rw [qR,hs 0] at h
     have hto:(to≥0)=False:=by rw [z3,decide_eq_false_iff_not] at ht;exact eq_false ht
     obtain ⟨e,h1,h2⟩:=ih (l1++[_]) _ r (by rw [he];simp) (by simp;omega) h
     refine ⟨e,?_,h2⟩
     rw [←h1]
     rw [qtd]
     simp only [kj,k_,e_,m_,x_,o_,s_,z_,a_,d_,g_,h_,l_,c_,r_,v_,qiJ,qix,qkA,qiH,qiz,qe6,qet,qsl,Bool.or_self,qwU,Nat.reduceEqDiff,qhy,qhf,qiw,qk4,hlt,decide_true,qeA,qlN,qph,qaO,qcA,qgW,qkg,↓reduceIte,qkC,qe3,qeL,qkp,qgd,hx,qdq,qHt,qHv,qHB,Nat.reduceAdd,qkH,cond_true,qyu,qdn,qso,qj6,qft,qHx,qHG,qmK,qdJ,qmC,qrs,qlp,qpl,qfu,qbk,qiL,qlw,qiu,qiq,qqR,quz,qxB,qkt,qHw,qjV,qfw,qhp,qkx,jm,qqN,qtx,qkk,qkB,qqf,List.getElem?_cons_succ,qHD,qHz,qmH,quL,Bool.or_true,qzu,qpZ,hto,decide_false,qHu,Nat.add_zero,Nat.reduceLeDiff,qqx,List.drop_zero,List.take_succ_cons,List.take_zero,qki,qpL,qk2,qfz,qiA,qfT,qa1,qkU,qcm,qmB,qsb hw,qfF,qa0,qco,Nat.min_self,qmF,qis,qeh,qun,qtX,qsY,qpK,qHC,quB,qpr,qk8,quV,zS,qrm,List.reduceReplicate,Nat.reduceLT,qcR,qHI,qfk,qhr,qy4,qkI,qhz,qmJ,qb4,qew,ap,qiK,qfY,kf,jZ,qmI,hw1,qHH,qta]
    ·cases h
  ·cases h
theorem qtY {x:D} {t starts:List D} {r:List Int} (hl:t.length≤900000) (h:qjF starts (x::t) 0 []=some r):qf pgE 57 [.ptr 0 0,.osl starts] [.cells [.osl (x::t)]]=some ⟨false,true,.tup [.d (slD wU r),.d (.i .i64 0)],[.cells [.osl (x::t)]],1⟩:=by
 obtain ⟨e,h1,h2⟩:=qth (H:=[.cells [.osl (x::t)]]) (l:=x::t) (starts:=starts) (by simp;omega) (x::t) [] [] r rfl (qHq _) h
 simp only [List.reverse_nil,slV,qHv,Int.natCast_zero,Int.ofNat_eq_natCast,qHt,qHv,qHB] at h1
 rw [qk (fn:=zG) rfl rfl]
 simp only [zG,k_,o_,i_,m_,a_,h_,n_,qaf,qg4,qHB,Nat.reduceAdd,qjo,qHt,qHv,qiH,qiz,qe6,qeL,qzu,qqa,qlN,qph,qaO,qcA,qwU,reduceCtorEq,qhy,qhf,qo1,qkp,qvi,qc7,qeA,jm,qqO,Nat.add_zero,qdn,qv7,qHD,qAc,qHz,qws,quk,qiw,qzQ,qe3,qta,Nat.reduceEqDiff,qiJ,qkA,h1,qmd,↓reduceIte,kf,h2,qix,jZ,qvF,qqq,qop,qeq,qlx,qtM,qfS,qjz,qye]
 exact qol (H:=[.cells [.osl (x::t)]]) rfl rfl rfl
noncomputable def qzq (vs:List V) (H:List Obj):Option Cr:=
 match vs,H with
 | [.ptr 0 0,.d (.agg [.i .i64 op,.i .i32 k])],[.cells [.osl (x::t)]]=>bif qHm x.cells.length 9 && Nat.ble (z6 t+20) 1000000 then (match qeg op k with
  | some m=>qrr t m fun l=>some ⟨false,false,.tup [],[.cells [.osl (x::l)]],0⟩
  | none=>none) else none
 | _,_=>none
noncomputable def qtN (vs:List V) (H:List Obj):Option Cr:=
 match vs,H with
 | [.ptr 0 0,.osl starts],[.cells [.osl (x::t)]]=>bif Nat.ble (z6 t) 900000 then (match qjF starts (x::t) 0 [] with
  | some r=>some ⟨false,true,.tup [.d (slD wU r),.d (.i .i64 0)],[.cells [.osl (x::t)]],1⟩
  | none=>none) else none
 | _,_=>none
theorem qsp {vs:List V} {H:List Obj} {r:Cr} (h:qzq vs H=some r):qf pg 56 vs H=some r:=by
 unfold qzq at h
 split at h
 ·rename_i op k x t
  rw [qHn] at h
  split at h
  ·rename_i hb
   simp only [qHo] at hb
   split at h
   ·rename_i m hm
    rw [qmG] at h
    cases h
    have:=qHF hb.2
    rw [kh] at this
    exact qEr hb.1 hm t m hm this
   ·cases h
  ·cases h
 ·cases h
theorem qpG {vs:List V} {H:List Obj} {r:Cr} (h:qtN vs H=some r):qf pgE 57 vs H=some r:=by
 unfold qtN at h
 split at h
 ·rename_i starts x t
  rw [qHn] at h
  split at h
  ·rename_i hb
   split at h
   ·rename_i r hr
    cases h
    have:=qHF hb
    rw [kh] at this
    exact qtY this hr
   ·cases h
  ·cases h
 ·cases h
theorem qu5 {pg:Pg} (hx:qD pg.ext) (f:Nat):qD fun _ vs H=>qf pg f vs H:=fun i vs H r h=>by
 obtain ⟨n,hn⟩:=zL.1 h
 exact jO hx (yH hx n) _ _ _ _ hn
end W
