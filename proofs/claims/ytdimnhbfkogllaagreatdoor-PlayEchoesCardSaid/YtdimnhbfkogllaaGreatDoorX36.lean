/-
  PlayEchoes, part 36.
-/
import Derived.Conc.LoneSelect
import Derived.KernelRfl
import Derived.Test.YtdimnhbfkogllaaGreatDoorX30
import Derived.Test.YtdimnhbfkogllaaGreatDoorX31
import Derived.Test.YtdimnhbfkogllaaGreatDoorX32
import Derived.Test.YtdimnhbfkogllaaGreatDoorX33
import Derived.Test.YtdimnhbfkogllaaGreatDoorX34
import Derived.Test.YtdimnhbfkogllaaGreatDoorX35
set_option linter.unusedSimpArgs false
set_option linter.unusedVariables false
open Bool renaming cond_eq_ite->qSH,and_eq_true->qSI,false_eq_true->qSO,and_self->qSP,not_true->qSW
open Nat renaming le_refl->qSJ,eq_of_beq_eq_true->qSL,beq->qSN,zero_add->qSV,le_of_ble_eq_true->qSY
open Option renaming bind_eq_some_iff->qSK,bind_eq_bind->qSM,pure_def->qSQ,map_some->qSU
open List renaming map_cons->qSR,length_cons->qSS,length_nil->qST,cons_append->qSX,getElem?_cons_zero->qSZ,length_append->qS0,map_nil->qS1,nil_append->qS2
namespace W
theorem qHN:∀e ∈ qJ3,e.Ok pg:=by
 simp only [qJ3,List.forall_mem_cons,List.forall_mem_append]
 exact ⟨qG5,qFI,qFY,qFM⟩
theorem qIw:∀e ∈ qLa,e.Ok pg1\/e.Ok pgG:=by
 simp only [qLa,List.forall_mem_cons]
 exact ⟨.inl qCk,.inr qCp,.inl qE0,.inl qHg,.inl qIe,.inl qHF,fun _ h=>by cases h⟩
theorem qEU:∀e ∈ qI0,e.Ok pg\/e.Ok pg1\/e.Ok pgG:=fun e he=>(List.mem_append.1 he).elim (fun h=>.inr (qIw e h)) fun h=>.inl (qFM e h)
theorem qH9:∀e ∈ qOb,e.Ok pg1\/e.Ok pgG\/e.Ok pg2:=by
 simp only [qOb,List.forall_mem_cons]
 exact ⟨.inl qCk,.inr (.inl qCp),.inr (.inr qF7),.inr (.inr qFZ),fun _ h=>by cases h⟩
end W
/- A port as an object: what holds of objects when a port is made, offered to, asked. -/
namespace W
open Go (World Value Addr IntKind Program TypeId FuncId Func Calls Code Result Oper Ending)
def qe6 (i:Nat) (vs:List V) (H:List Obj):Option Cr:=
 match vs with
 | [.d (.i .i64 (.ofNat n))]=>bif qSN i 9 then (bif Nat.ble 1 n && Nat.ble n 4096 then some ⟨false,false,.ptr H.length 0,H++[.port n []],H.length⟩ else none) else none
 | [.ptr id 0,.d (.i .u8 c)]=>bif qSN i 19 then (match H[id]? with
  | some (.port cap buf)=>bif Nat.blt buf.length cap then some ⟨false,false,.d (.b true),qq H id (.port cap (buf++[c])),id⟩ else some ⟨false,true,.d (.b false),H,H.length⟩
  | _=>none) else none
 | [.ptr id 0]=>bif qSN i 11 then (match H[id]? with
  | some (.port cap [])=>some ⟨false,true,.tup [.d (.i .u8 0),.d (.b false)],H,H.length⟩
  | some (.port cap (c::l))=>some ⟨false,false,.tup [.d (.i .u8 c),.d (.b true)],qq H id (.port cap l),id⟩
  | _=>none) else none
 | _=>none
theorem qH8:qt qe6:=fun i vs H r h=>by
 have hs:∀(id:Nat) (o:Obj),H.length<=(qq H id o).length/\(∀j,j<id->j<H.length->(qq H id o)[j]?=H[j]?)/\(false=true->qq H id o=H):=fun id o=>
  ⟨by simp [qq],fun j h1 _=>by simp only [qq];rw [List.getElem?_set_ne (by omega)],fun h=>by cases h⟩
 unfold qe6 at h
 simp only [qSH] at h
 repeat' split at h
 all_goals first
  | (cases h;done)
  | (cases h;exact ⟨qSJ _,fun _ _ _=>rfl,fun _=>rfl⟩)
  | (cases h;exact hs _ _)
  | (cases h;exact ⟨by simp,fun j _ h2=>by simp [List.getElem?_append_left h2],fun h=>by cases h⟩)
theorem RelH.chan {M:Maps} {g:Gh} {w:World} {H:List Obj} (hH:RelH M g w H) {id c cap cap':Nat} {buf':List Int} {T:TypeId} {sn rn sn' rn':Nat} {tm tm':Bool} {q:Array Value} (hid:id<g.n)
  (hb:w.heap[g.φ id]?=some (.cells #[.chan (some c),.bool false] T (0,0))) (ho:g.own (g.φ id)=some (.oblk id)) (hp:g.pub (g.φ id)=0)
  (hc:w.heap[c]?=some (.chan cap q false sn rn tm)) (hoc:g.own c=some (.ocell id 0)) {q':Array Value} (hq:q'=(buf'.map (Value.int .u8)).toArray) :
  RelH M g (w.setChan c cap' q' false sn' rn' tm') (qq H id (.port cap' buf'))/\Evo g w g (w.setChan c cap' q' false sn' rn' tm'):=by
 have hlt:c<w.heap.size:=by
  rcases Nat.lt_or_ge c w.heap.size with h|h
  ·exact h
  ·rw [Array.getElem?_eq_none (by omega)] at hc;cases hc
 have hne:∀b,b≠c->(w.setChan c cap' q' false sn' rn' tm').heap[b]?=w.heap[b]?:=fun b h=>by
  simp only [World.setChan];rw [Array.getElem?_setIfInBounds_ne (fun e=>h e.symm)]
 have hnew:(w.setChan c cap' q' false sn' rn' tm').heap[c]?=some (.chan cap' q' false sn' rn' tm'):=by simp [World.setChan,hlt]
 have hg:Grow g w g (w.setChan c cap' q' false sn' rn' tm'):=⟨by simp [World.setChan],fun _=>qSJ _,fun b o _=>by
  by_cases e:b=c
  ·subst e;simp [World.cell?,hnew,hc]
  ·exact zm (hne b e) o⟩
 have hk:∀ℓ,ℓ≠.ocell id 0->Kept g w g (w.setChan c cap' q' false sn' rn' tm') ℓ:=fun ℓ hℓ=>⟨fun b hob=>⟨hob,hne b (fun e=>by subst e;rw [hoc] at hob;exact hℓ (Option.some.inj hob).symm),rfl⟩⟩
 refine ⟨⟨by rw [hH.n];simp [qq],fun j o hj=>?_,fun b hb=>hH.fresh b (by simpa [World.setChan] using hb),hH.gl.mono hg⟩,hg,qSJ _,fun _ _=>rfl,fun b hlb hob=>?_,⟨rfl,rfl⟩⟩
 ·by_cases e:j=id
  ·subst e
   simp only [qq] at hj
   rw [List.getElem?_set_self (by rw [<- hH.n];exact hid)] at hj
   cases hj
   have hφ:g.φ j≠c:=fun e=>by rw [e,hoc] at ho;cases ho
   exact .port cap' buf' c T sn' rn' tm' ((hne _ hφ).trans hb) ho hp (by rw [hnew,hq]) hoc
  ·simp only [qq] at hj
   rw [List.getElem?_set_ne (fun h=>e h.symm)] at hj
   have hjn:j<g.n:=by rw [hH.n];exact (List.getElem?_eq_some_iff.1 hj).1
   exact (hH.h j o hj).mono hg (qSJ _) (fun _ _=>rfl) hjn (hk _ (by simp)) (fun i=>hk _ (by simp;omega))
 ·refine ⟨rfl,hne b (fun e=>?_),rfl⟩
  subst e
  rw [hoc] at hob
  rcases hob with h|h<;>cases h
theorem RelH.port {M:Maps} {g:Gh} {w:World} {H:List Obj} (hH:RelH M g w H) (n:Nat) (T:TypeId) :
  ∃g',RelH M g' ((w.alloc (.chan n #[] false 0 0 false)).alloc (.cells #[.chan (some w.heap.size),.bool false] T (0,0))) (H++[.port n []])/\
   Evo g w g' ((w.alloc (.chan n #[] false 0 0 false)).alloc (.cells #[.chan (some w.heap.size),.bool false] T (0,0)))/\H.length<g'.n/\g'.φ H.length=w.heap.size+1:=by
 have hf:Fresh g w:=⟨hH.fresh⟩
 generalize ew1:w.alloc (.chan n #[] false 0 0 false)=w1
 generalize eg1:g.withNew w.heap.size (some (.ocell g.n 0)) 0=g1
 have hG:Grow g w g1 w1:=by subst ew1;subst eg1;exact qae hf _ _ _
 have hK:∀ℓ,Kept g w g1 w1 ℓ:=fun ℓ=>by subst ew1;subst eg1;exact qa7 hf _ _ _ ℓ
 have hE:Evo g w g1 w1:=by subst ew1;subst eg1;exact z5 hf _ _ _
 have hF:Fresh g1 w1:=by subst ew1;subst eg1;exact qsJ hf _ _ _
 have en:g1.n=g.n:=by subst eg1;rfl
 have eΦ:∀id,g1.Φ id=g.Φ id:=fun id=>by subst eg1;rfl
 have es:w1.heap.size=w.heap.size+1:=by subst ew1;simp
 have eh:w1.heap[w.heap.size]?=some (.chan n #[] false 0 0 false):=by subst ew1;exact qw _ _
 have eo:g1.own w.heap.size=some (.ocell g.n 0):=by subst eg1;simp [Gh.withNew]
 have hR:Rel M g1 w1 (fun _=>0) ⟨[],H,0⟩ #[]:=⟨en.trans hH.n,fun k=>.s (.undef _),fun id o ho=>(hH.h id o ho).mono hG (Nat.le_of_eq en.symm) (fun id _=>eΦ id) (by rw [hH.n];exact (List.getElem?_eq_some_iff.1 ho).1) (hK _) (fun _=>hK _),hF.f,hH.gl.mono hG⟩
 have hn:g1.n=H.length:=en.trans hH.n
 obtain ⟨h1,h2⟩:=hR.newObj (.port n []) (.cells #[.chan (some w.heap.size),.bool false] T (0,0)) (c:=0) (by
  have hφ:(g1.withObj w1.heap.size 0).φ g1.n=w1.heap.size:=by simp [Gh.withObj,Gh.φ]
  refine .port n [] w.heap.size T 0 0 false ?_ ?_ ?_ ?_ ?_
  ·rw [hφ];exact qw _ _
  ·rw [hφ];simp [Gh.withObj]
  ·rw [hφ];exact (hF.f _ (qSJ _)).2
  ·rw [qI _ _ (by omega)];exact eh
  ·simp only [Gh.withObj]
   rw [if_neg (by omega),eo,en])
 refine ⟨_,h1.toH,hE.trans h2,?_,?_⟩
 ·rw [<- hn];exact Nat.lt_succ_self _
 ·rw [<- hn,<- es];simp [Gh.withObj,Gh.φ]
end W
/- PlayEchoes: what was written goes into a port, as far as there is room. -/
namespace W
open Go (IntKind BinOp UnOp)
set_option maxRecDepth 20000
set_option linter.defProp false in
def qdc:=(And.intro (And.intro (And.intro (And.intro (And.intro (And.intro @qnd @qmH) (And.intro @qal (And.intro @kr @qrm))) (And.intro (And.intro @qxc @qrK) (And.intro @qp2 (And.intro @qhE @qB1)))) (And.intro (And.intro (And.intro @qiG @qmR) (And.intro @qFh (And.intro @qjk @qrd))) (And.intro (And.intro @qxa (And.intro @qnu @qpc)) (And.intro @qne (And.intro @qrh @ql1))))) (And.intro (And.intro (And.intro (And.intro @qiz @qcl) (And.intro @qyE (And.intro @qtu @qjQ))) (And.intro (And.intro @qvE (And.intro @qpt @qje)) (And.intro @qyG (And.intro @qC3 @qAO)))) (And.intro (And.intro (And.intro @qy4 @qnp) (And.intro @qeP (And.intro @qpN @qx3))) (And.intro (And.intro @qq2 (And.intro @qvs @qD2)) (And.intro @quJ (And.intro @qyD @yn)))))) (And.intro (And.intro (And.intro (And.intro (And.intro @qsL @qtG) (And.intro @qp4 (And.intro @qnm @qfn))) (And.intro (And.intro @qsd (And.intro @qyi @qz0)) (And.intro @qqm (And.intro @qBj @qt6)))) (And.intro (And.intro (And.intro @qFA @qxf) (And.intro @qr7 (And.intro @qu6 @qt3))) (And.intro (And.intro @qqP (And.intro @qjD @qjA)) (And.intro @qB4 (And.intro @qeI @qqN))))) (And.intro (And.intro (And.intro (And.intro @qtC @qeq) (And.intro @qNC (And.intro @qiB @qdp))) (And.intro (And.intro @qcz (And.intro @qye @qcB)) (And.intro @qwz (And.intro @qtx @qwy)))) (And.intro (And.intro (And.intro @qjK @qtt) (And.intro @qhh (And.intro @qnl @qq8))) (And.intro (And.intro @qxk (And.intro @qCf @qnz)) (And.intro @qGG (And.intro @qHC @qOJ)))))))
def plL:List (Nat × Fn):=[(4,qE),(6,qY),(10,jc)]
def qQ5:List Ent:=[pl_k]
def pgL:Pg:=⟨fun n=>qwE n plL,fun i vs H=>bif qSN i 5 then qu8 qQ5 i vs H else qe6 i vs H⟩
theorem qId:qt pgL.ext:=fun i vs H r h=>by
 simp only [pgL,qSH] at h
 split at h
 ·exact qqj i vs H r h
 ·exact qH8 i vs H r h
theorem jV {pg:Pg} {e:Env} {H:List Obj} {lo:Nat}:exL pg qO ⟨e,H,lo⟩=kP pg (kE (get 0 e)) (kE (get 6 e)) (kE (get 7 e)) (kE (get 8 e)) H lo:=qxy
theorem jX {pg:Pg} {v0 v6 v7 v8:V} {H:List Obj} {lo:Nat}:kP pg v0 v6 v7 v8 H lo=qoq pg (exL pg kD ⟨[(0,kE v0),(6,kE v6),(7,kE v7),(8,kE v8)],H,lo⟩) qO:=by
 unfold kP qO;rw [qmI];simp only [qdc,Nat.reduceEqDiff]
theorem qbI {pg:Pg} {e:Env} {H:List Obj} {lo:Nat}:exL pg yV ⟨e,H,lo⟩=qbE pg (kE (get 0 e)) (kE (get 3 e)) (kE (get 10 e)) (kE (get 11 e)) (kE (get 12 e)) H lo:=qxy
theorem qbN {pg:Pg} {v0 v3 v10 v11 v12:V} {H:List Obj} {lo:Nat}:qbE pg v0 v3 v10 v11 v12 H lo=qoq pg (exL pg jN ⟨[(0,kE v0),(3,kE v3),(10,kE v10),(11,kE v11),(12,kE v12)],H,lo⟩) yV:=by
 unfold qbE yV;rw [qmI];simp only [qdc,Nat.reduceEqDiff]
theorem qw0 {H:List Obj}:qf pgL 5 [] H=some ⟨false,true,.d (.b true),H,H.length⟩:=by
 rw [qbS]
 rfl
theorem qtA {H:List Obj} {pan:Bool} {x:D} {e:Env}:leave H pan (.d x) ⟨e,H,H.length⟩=some ⟨pan,true,.d x,H,H.length⟩:=by
 have h:Nat.ble 0 H.length=true:=Nat.ble_eq_true_of_le (Nat.zero_le _)
 have h':Nat.ble H.length H.length=true:=Nat.ble_eq_true_of_le (qSJ _)
 simp [leave,settle,V.leaves,V.ref,V.ok,h,h']
theorem em2 (p:Prop):p=True\/p=False:=(Classical.em p).elim (fun h=>.inl (eq_true h)) fun h=>.inr (eq_false h)
structure Bt (X:D) (s:List Nat):Prop where
 sl:SlD e8 X s
 ok:∀c ∈ s,c<256
theorem Bt.len {X:D} {s:List Nat} (h:Bt X s) {H:List Obj}:qxt .lenL (.d X) H=some (.d (.i .i64 s.length)):=h.sl.len
theorem Bt.form {X:D} {s:List Nat} (h:Bt X s):X=.nil/\s=[]\/X=.sl (s.map e8):=by
 obtain ⟨h,_⟩:=h
 cases h with
 | nil=>exact .inl ⟨rfl,rfl⟩
 | sl=>exact .inr rfl
theorem qAE {k n:Int} (hn:n=70):∃e,0<=e/\e<70/\∀H,qf pgL 6 [.d (.i .i64 k),.d (.i .i64 n)] H=some ⟨false,true,.d (.i .i64 e),H,H.length⟩:=by
 subst hn
 have b1:=Int.tmod_lt_of_pos k (b:=70) (by omega)
 have b2:=Int.lt_tmod_of_pos k (b:=70) (by omega)
 by_cases h:Int.tmod k 70<0
 ·have hw:wr .i64 (k.tmod 70+70)=k.tmod 70+70:=qbK (by omega) (by omega)
  refine ⟨k.tmod 70+70,by omega,by omega,fun H=>?_⟩
  rw [qj (fn:=qY) rfl rfl]
  have hl:(Int.tmod k 70<0)=True:=eq_true h
  simp only [qdc,qY,qSV,Nat.reduceAdd,reduceCtorEq,Nat.reduceEqDiff,Bool.or_self,Int.reduceEq,qCs,Bool.or_true,hl,decide_true,↓reduceIte,hw,qtA]
 ·refine ⟨k.tmod 70,by omega,by omega,fun H=>?_⟩
  rw [qj (fn:=qY) rfl rfl]
  have hl:(Int.tmod k 70<0)=False:=eq_false h
  simp only [qdc,qY,qSV,Nat.reduceAdd,reduceCtorEq,Nat.reduceEqDiff,Bool.or_self,Int.reduceEq,qCs,Bool.or_true,hl,decide_false,qSO,↓reduceIte,qtA]
theorem qQK:qek .eql .ptr true (.d .np) (.d .np)=some (.d (.b true)):=rfl
theorem qGL {i o:Nat}:qek .eql .ptr true (.ptr i o) (.d .np)=some (.d (.b false)):=rfl
theorem qFJ {n:Nat} (h1:1<=n) (h2:n<=4096):qf pgL 9 [.d (.i .i64 (n:Int))] []=some ⟨false,false,.ptr 0 0,[.port n []],0⟩:=by
 rw [qbS]
 show qe6 9 [.d (.i .i64 (.ofNat n))] []=_
 have a:Nat.ble 1 n=true:=Nat.ble_eq_true_of_le h1
 have b:Nat.ble n 4096=true:=Nat.ble_eq_true_of_le h2
 simp [qe6,a,b]
theorem qoQ {cap:Nat} {buf:List Int} {c:Int} (h:buf.length<cap):qf pgL 19 [.ptr 0 0,.d (.i .u8 c)] [.port cap buf]=some ⟨false,false,.d (.b true),[.port cap (buf++[c])],0⟩:=by
 rw [qbS]
 show qe6 19 [.ptr 0 0,.d (.i .u8 c)] [.port cap buf]=_
 have a:Nat.blt buf.length cap=true:=by simpa [Nat.blt_eq] using h
 simp [qe6,a,qq]
theorem qpn {cap:Nat} {buf:List Int} {c:Int} (h:cap<=buf.length):qf pgL 19 [.ptr 0 0,.d (.i .u8 c)] [.port cap buf]=some ⟨false,true,.d (.b false),[.port cap buf],1⟩:=by
 rw [qbS]
 show qe6 19 [.ptr 0 0,.d (.i .u8 c)] [.port cap buf]=_
 have a:Nat.blt buf.length cap=false:=by rw [Bool.eq_false_iff];intro e;rw [Nat.blt_eq] at e;omega
 simp [qe6,a]
theorem qrR {cap:Nat} {l:List Int} {c:Int}:qf pgL 11 [.ptr 0 0] [.port cap (c::l)]=some ⟨false,false,.tup [.d (.i .u8 c),.d (.b true)],[.port cap l],0⟩:=by
 rw [qbS]
 show qe6 11 [.ptr 0 0] [.port cap (c::l)]=_
 simp [qe6,qq]
theorem qrk {cap:Nat}:qf pgL 11 [.ptr 0 0] [.port cap []]=some ⟨false,true,.tup [.d (.i .u8 0),.d (.b false)],[.port cap []],1⟩:=by
 rw [qbS]
 show qe6 11 [.ptr 0 0] [.port cap []]=_
 simp [qe6]
theorem qD6 {l:List Nat} {i:Nat} (h:i<l.length):(l.take i).map Int.ofNat++[((l[i]:Nat):Int)]=(l.take (i+1)).map Int.ofNat:=by
 rw [List.take_succ_eq_append_getElem h,List.map_append]
 rfl
theorem qDg {s:List Nat} (hz:s.length<=60) {cap:Nat} {cs:List V} (hb:∃a b,cs=[.d (.sl (s.map e8)),a,b]) {v0:V} :
  ∀(k i:Nat) (lo:Nat),s.length - i=k->i<=s.length->i<=cap->(lo=0\/lo=1/\i=0)->
   ∃x e lo',(x=.nrm\/x=.ret)/\get 4 e=.d (.i .i64 (min cap s.length:Nat))/\(lo'=0\/lo'=1/\min cap s.length=0)/\
   qoq pgL (qo5 0 [3] (qbE pgL (.ptr 0 0) (.box cs) (.d (.sl (s.map e8))) (.d (.i .i64 (s.length:Nat))) (.d (.i .i64 (i:Nat))) [.port cap ((s.take i).map Int.ofNat)] lo)) qbp=some (x,⟨e,[.port cap ((s.take (min cap s.length)).map Int.ofNat)],lo'⟩):=by
 obtain ⟨a,b,rfl⟩:=hb
 have hX:Bt (.sl (s.map e8)) s->True:=fun _=>trivial
 intro k
 induction k with
 | zero=>
  intro i lo hk hi hc hl
  obtain rfl:i=s.length:=by omega
  have h1:((s.length:Int)<(s.length:Int))=False:=by simp
  have hm:min cap s.length=s.length:=Nat.min_eq_right hc
  have hlen:∀H,qxt .lenL (.d (.sl (s.map e8))) H=some (.d (.i .i64 s.length)):=fun H=>by simpa using (SlD.sl (e:=e8) s).len (H:=H)
  rw [qbN,hm]
  simp only [qdc,jN,Bool.or_self,reduceCtorEq,Nat.reduceEqDiff,h1,decide_false,qSO,↓reduceIte,qbp,Nat.add_zero,qSZ,qSU,hlen]
  exact ⟨_,_,_,.inr rfl,rfl,by omega,rfl⟩
 | succ k ih=>
  intro i lo hk hi hc hl
  have h1:((i:Int)<(s.length:Int))=True:=by rw [eq_iff_iff];simp;omega
  have hlt:i<s.length:=by omega
  have hia:iaV (.d (.sl (s.map e8))) (.d (.i .i64 (i:Int))) 1 none=some (.cp (e8 s[i])):=(SlD.sl (e:=e8) s).ix rfl (by simp [hlt])
  have hw:wr .i64 ((i:Int)+1)=((i+1:Nat):Int):=by rw [qbK (by omega) (by omega)];omega
  have hlen:((s.take i).map Int.ofNat).length=i:=by simp;omega
  rw [qbN]
  by_cases hf:i<cap
  ·have ho:=qoQ (cap:=cap) (buf:=(s.take i).map Int.ofNat) (c:=((s[i]:Nat):Int)) (by rw [hlen];exact hf)
   rw [qD6 hlt] at ho
   obtain ⟨x,e,lo',q1,q2,q3,q4⟩:=ih (i+1) (min lo 0) (by omega) (by omega) (by omega) (by omega)
   refine ⟨x,e,lo',q1,q2,q3,?_⟩
   rw [<- q4]
   simp only [qdc,jN,Bool.or_self,reduceCtorEq,Nat.reduceEqDiff,h1,decide_true,↓reduceIte,hia,e8,qSR,qS1,qSP,ho,qSW,qSU,qSO,qfy,Bool.or_true,hw,qbI]
  ·have hcap:i=cap:=by omega
   have ho:=qpn (cap:=cap) (buf:=(s.take i).map Int.ofNat) (c:=((s[i]:Nat):Int)) (by rw [hlen];omega)
   have hm:min cap s.length=i:=by omega
   rw [hm]
   simp only [qdc,jN,Bool.or_self,reduceCtorEq,Nat.reduceEqDiff,h1,decide_true,↓reduceIte,hia,e8,qSR,qS1,qSP,ho,Bool.not_false,qSU,qtM]
   exact ⟨_,_,_,.inr rfl,rfl,by omega,rfl⟩
theorem qD8 {X:D} {s:List Nat} (hX:Bt X s) (hz:s.length<=60) {cap:Nat}:∃sm lo,qf pgL 10 [.ptr 0 0,.d (.agg [X,.i .i64 0,.i .i64 0])] [.port cap []]=some ⟨false,sm,.d (.i .i64 (min cap s.length:Nat)),[.port cap ((s.take (min cap s.length)).map Int.ofNat)],lo⟩:=by
 rw [qj (fn:=jc) rfl rfl]
 rcases hX.form with ⟨rfl,rfl⟩|rfl
 ·simp only [qdc,jc,qbp,qSV,Nat.reduceAdd,qSS,qST,reduceCtorEq,qSR,qS1,qSP,qsf,Bool.or_true,qGL,qSO,↓reduceIte,Nat.reduceEqDiff,Nat.add_zero,qSZ,qSU,qFT,qbI,qbN,jN,Bool.or_self,Int.reduceLT,decide_false,Nat.min_zero,Int.cast_ofNat_Int,List.take_nil]
  exact ⟨_,_,qtA⟩
 ·obtain ⟨x,e,lo',hx,h2,hl,h3⟩:=qDg hz (cap:=cap) (cs:=[.d (.sl (s.map e8)),.d (.i .i64 0),.d (.i .i64 0)]) ⟨_,_,rfl⟩ (v0:=.undef) s.length 0 1 rfl (by omega) (by omega) (by omega)
  have hlen:∀H,qxt .lenL (.d (.sl (s.map e8))) H=some (.d (.i .i64 s.length)):=fun H=>by simpa using (SlD.sl (e:=e8) s).len (H:=H)
  have hz0:((0:Nat):Int)=0:=rfl
  rw [hz0,List.take_zero,qS1] at h3
  simp only [qdc,jc,qSV,Nat.reduceAdd,qSS,qST,reduceCtorEq,qSR,qS1,qSP,qsf,Bool.or_true,qGL,qSO,↓reduceIte,Nat.reduceEqDiff,Nat.add_zero,qSZ,qSU,hlen,qbI]
  rw [h3]
  rcases hl with rfl|⟨rfl,hm⟩
  ·rcases hx with rfl|rfl
   all_goals simp only [qdc,quL,h2]
   all_goals exact ⟨_,_,qwk rfl (.inr (Nat.zero_lt_one)) rfl⟩
  ·rw [hm] at h2 |-
   rcases hx with rfl|rfl
   all_goals simp only [qdc,List.take_zero,qS1,quL,h2,Int.cast_ofNat_Int]
   all_goals exact ⟨_,_,qoM rfl (Nat.zero_le _) (qSJ _)⟩
theorem qHk {x:D} (hx:x=.nil\/∃l,x=.sl l) {H:List Obj}:qf pgL 10 [.d .np,.d (.agg [x,.i .i64 0,.i .i64 0])] H=some ⟨false,true,.d (.i .i64 0),H,H.length⟩:=by
 rw [qj (fn:=jc) rfl rfl]
 rcases hx with rfl|⟨l,rfl⟩<;>simp only [qdc,jc,qSV,Nat.reduceAdd,reduceCtorEq,qSR,qS1,qSP,Bool.or_true,qQK,↓reduceIte,qtA]
theorem qDY {l:List Nat} {k i:Nat} (h:i<k) (hk:k<=l.length):((l.take k).drop i).map Int.ofNat=((l[i]'(by omega):Nat):Int)::((l.take k).drop (i+1)).map Int.ofNat:=by
 rw [List.drop_eq_getElem_cons (by simp;omega)]
 simp
theorem qEq {s:List Nat} (hz:s.length<=60) {cap k:Nat} (hk:k<=s.length) {X:D} (hX:Bt X s) :
  ∀(j i:Nat) (lo:Nat),k - i=j->i<=k->
   ∃e lo' H',get 4 e=.d (.b true)/\
   qoq pgL (qo5 0 [6] (kP pgL (.d X) (.ptr 0 0) (.d (.i .i64 (k:Nat))) (.d (.i .i64 (i:Nat))) [.port cap (((s.take k).drop i).map Int.ofNat)] lo)) zP=some (.ret,⟨e,H',lo'⟩):=by
 intro j
 induction j with
 | zero=>
  intro i lo hj hi
  obtain rfl:i=k:=by omega
  have h1:((i:Int)<(i:Int))=False:=by simp
  have hd:(s.take i).drop i=[]:=by rw [List.drop_eq_nil_iff];simp;omega
  rw [jX,hd,qS1]
  simp only [qdc,kD,reduceCtorEq,Nat.reduceEqDiff,Bool.or_self,h1,decide_false,qSO,↓reduceIte,zP,qsl,qSR,qS1,qSP,qrk,qp9,qjh,qcA,qys,qxw,qxS,Bool.not_false,qSU]
  exact ⟨_,_,_,rfl,rfl⟩
 | succ j ih=>
  intro i lo hj hi
  have h1:((i:Int)<(k:Int))=True:=by rw [eq_iff_iff];simp;omega
  have hlt:i<s.length:=by omega
  have hia:iaV (.d X) (.d (.i .i64 (i:Int))) 1 none=some (.cp (e8 s[i])):=hX.sl.ix rfl (by simp [hlt])
  have hw:wr .i64 ((i:Int)+1)=((i+1:Nat):Int):=by rw [qbK (by omega) (by omega)];omega
  obtain ⟨e,lo',H',q1,q2⟩:=ih (i+1) (min lo 0) (by omega) (by omega)
  refine ⟨e,lo',H',q1,?_⟩
  rw [<- q2,jX,qDY (by omega) hk]
  simp only [qdc,kD,reduceCtorEq,Nat.reduceEqDiff,Bool.or_self,h1,decide_true,↓reduceIte,qSR,qS1,qSP,qrR,qp9,qjh,qcA,qys,qxw,qxS,qSW,qSU,quI,qyY,Bool.not_false,qxz,hia,e8,qtE,qoR,qxp,qSO,qfy,Bool.or_true,hw,jV]
theorem qAP {X:D} {s:List Nat} (hX:Bt X s) {r:Int}:∃lo,qf pgL 4 [.d X,.d (.i .i64 r)] []=some ⟨false,true,.d (.b true),[],lo⟩:=by
 obtain ⟨e,e1,e2,hp⟩:=qAE (k:=r) rfl
 obtain ⟨m,rfl⟩:=Int.eq_ofNat_of_zero_le e1
 have l1:=fun H=>hX.len (H:=H)
 rw [qj (fn:=qE) rfl rfl]
 rcases em2 (60<(s.length:Int)) with h3|h3
 ·simp only [qdc,qE,qSV,Nat.reduceAdd,qST,qS1,qw0,Nat.min_self,qSW,qSU,qSO,↓reduceIte,reduceCtorEq,l1,Bool.or_true,qCJ,h3,decide_true]
  exact ⟨_,rfl⟩
 ·have hs:s.length<=60:=by
   have:=of_eq_false h3
   omega
  have hw:wr .i64 ((m:Int)+1)=((m+1:Nat):Int):=by rw [qbK (by omega) (by omega)];omega
  have hn:=qFJ (n:=m+1) (by omega) (by omega)
  obtain ⟨sm,lo1,he⟩:=qD8 hX hs (cap:=m+1)
  obtain ⟨e',lo',H',q1,q2⟩:=qEq hs (cap:=m+1) (k:=min (m+1) s.length) (Nat.min_le_right _ _) hX (min (m+1) s.length) 0 (min (min 0 lo1) 1) rfl (Nat.zero_le _)
  have hm:(if (s.length:Int)<((m+1:Nat):Int) then (s.length:Int) else ((m+1:Nat):Int))=((min (m+1) s.length:Nat):Int):=by
   split<;>omega
  have hf:X=.nil\/∃l,X=.sl l:=hX.form.imp And.left fun h=>⟨_,h⟩
  have hnil:=fun H=>qHk hf (H:=H)
  have hz0:((0:Nat):Int)=0:=rfl
  rw [List.drop_zero,hz0] at q2
  generalize min (m+1) s.length=k at *
  generalize s.length=n at *
  rcases hX.form with ⟨rfl,_⟩|rfl
  all_goals
   simp only [qdc,qE,qSV,Nat.reduceAdd,qST,qS1,qw0,Nat.min_self,qSW,qSU,qSO,↓reduceIte,reduceCtorEq,l1,Bool.or_true,qCJ,h3,decide_false,Nat.reduceEqDiff,qSR,qSP,hp,hw,hn,qsl,qGL,qsT,qt7,qSS,Nat.reduceLT,qCK,List.set_cons_zero,qwW,qw6,qqY,qyj,qqy,qjX,qnn,he,qDT,qJw,hm,Bool.or_self,qtE,decide_true,quI,qyY,Bool.not_false,qxz,hnil,qoR,qxp,jV]
   rw [q2]
   simp only [qdc,q1]
   exact ⟨_,qoM rfl (Nat.zero_le _) (Nat.zero_le _)⟩
end W
