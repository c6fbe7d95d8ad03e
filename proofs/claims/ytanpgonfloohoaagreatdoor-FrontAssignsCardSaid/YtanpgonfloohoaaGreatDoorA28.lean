/-
  FrontAssigns, part 28.
-/
import Derived.Test.YtanpgonfloohoaaGreatDoorA23
import Derived.Test.YtanpgonfloohoaaGreatDoorA24
import Derived.Test.YtanpgonfloohoaaGreatDoorA25
import Derived.Test.YtanpgonfloohoaaGreatDoorA26
import Derived.Test.YtanpgonfloohoaaGreatDoorA27
/- Programs whose declarations are told at once. -/
open Bool renaming cond_eq_ite->qOx,and_eq_true->qOy,false_eq_true->qOF
open Nat renaming eq_of_beq_eq_true->qOz,le_refl->qOB,beq->qOC,le_of_ble_eq_true->qOH
open Option renaming bind_eq_some_iff->qOA,bind_eq_bind->qOD,pure_def->qOE,map_some->qOG
namespace W
set_option maxRecDepth 100000
noncomputable def zlD:List (Nat × KZ):=[(58,.mk (qlP 5 qt1 qt5 2)),(36,.mk (qlP 1 qtY qtj 0)),(37,.mk (qlP 1 qub qrM 0)),(39,.mk (qlP 1 qtz qua 0))]
def qNI (n:Nat):Bool:=qOC n 58 || qOC n 36 || qOC n 37 || qOC n 39
theorem qKj:∀p ∈ zlD,∀vs H r,p.2.run vs H=some r->qh pg1 p.1 vs H=some r:=by
 simp only [zlD,List.forall_mem_cons]
 exact ⟨fun _ _ _ h=>qKB h,fun _ _ _ h=>qGD h,fun _ _ _ h=>qJz h,fun _ _ _ h=>qK9 h,fun _ h=>by cases h⟩
noncomputable def pgU (gone:Nat->Bool) (T:List Ent):Pg:=⟨fun n=>bif qEY n || (gone n || qNI n) then none else pg.fn n,fun i vs H=>(qlF i zl (qlF i zlD (.mk (qsL T i)))).run vs H⟩
theorem qyw {T:List Ent} {i:Nat} {vs:List V} {H:List Obj} {r:Cr} (h:(qlF i zl (qlF i zlD (.mk (qsL T i)))).run vs H=some r):qh pg i vs H=some r\/qh pg1 i vs H=some r\/qtx T i vs H=some r:=by
 rcases qnF (i:=i) (d:=qlF i zlD (.mk (qsL T i))) zl with e|⟨p,hp,rfl,e⟩
 ·rw [e] at h
  rcases qnF (i:=i) (d:=.mk (qsL T i)) zlD with e|⟨p,hp,rfl,e⟩
  ·rw [e] at h;exact .inr (.inr (qyd▸h))
  ·rw [e] at h;exact .inr (.inl (qKj p hp vs H r h))
 ·rw [e] at h;exact .inl (qFf p hp vs H r h)
theorem qxZ {gone:Nat->Bool} {T:List Ent}:qu (pgU gone T).ext:=fun i vs H r h=>by
 rcases qyw h with h|h|h
 ·exact qt0 qt4 i i vs H r h
 ·exact qt0 qpY i i vs H r h
 ·exact qtB i vs H r h
end W
/- The scanners' runs behind the head that all sources share. -/
namespace W
set_option maxRecDepth 100000
noncomputable def qvQ (call:Call) (live:List Nat) (B:C) (k:Nat):St->Option St:=
 Nat.rec (motive:=fun _=>St->Option St) (fun st=>some st) (fun _ ih st=>match exJ call 1000 B ⟨restrict live st.env,st.H,st.lo⟩ with
  | some (.nrm,st')=>ih st'
  | _=>none) k
theorem quR {pg:Pg} {N:Nat} {live:List Nat} {B:C}:∀(k:Nat) (st st':St),qvQ (ji pg N) live B k st=some st'->exL pg (.loop live B) st=exL pg (.loop live B) st'
 | 0,st,st',h=>by cases h;rfl
 | k+1,st,st',h=>by
  have h:(match exJ (ji pg N) 1000 B ⟨restrict live st.env,st.H,st.lo⟩ with
   | some (.nrm,st2)=>qvQ (ji pg N) live B k st2
   | _=>none)=some st':=h
  split at h
  ·rename_i st2 he
   rw [ql3,qrt (qde pg N) 1000 _ _ _ he]
   exact quR k _ _ h
  ·cases h
theorem qB1 {pg:Pg} {live:List Nat} {B:C} {e e':Env} {H:List Obj} {lo:Nat} (h:restrict live e=restrict live e'):exL pg (.loop live B) ⟨e,H,lo⟩=exL pg (.loop live B) ⟨e',H,lo⟩:=by
 rw [ql3,ql3 (st:=⟨e',H,lo⟩),h]
theorem seq_as {pg:Pg} {a b c:C} {st:St}:exL pg (.seq a (.seq b c)) st=exL pg (.seq (.seq a b) c) st:=by
 rw [qec,qec (a:=.seq a b),qec (a:=a)]
 cases exL pg a st with
 | none=>rfl
 | some p=>
  obtain ⟨x,s⟩:=p
  cases x<;>first|(show exL pg (.seq b c) s=qpI pg (exL pg b s) c;rw [qec];done)|rfl
theorem share {pg:Pg} {N k:Nat} {live ids:List Nat} {d:Nat} {A A' B:C} {st:St} {e0 e1 e2:Env} {H0 H1:List Obj} {l0 l1:Nat}
  (h0:exJ (ji pg N) 1000 A st=some (.nrm,⟨e0,H0,l0⟩)) (h1:exJ (ji pg N) 1000 A' st=some (.nrm,⟨e1,H1,l1⟩))
  (hi:qvQ (ji pg N) live B k ⟨e0,H0,l0⟩=some ⟨e2,H1,l1⟩) (hr:restrict live e2=restrict live e1) :
  exL pg (.seq A (.block d ids (.loop live B))) st=exL pg (.seq A' (.block d ids (.loop live B))) st:=by
 rw [qec,qec,qrt (qde pg N) 1000 _ _ _ h0,qrt (qde pg N) 1000 _ _ _ h1]
 show exL pg (.block d ids (.loop live B)) ⟨e0,H0,l0⟩=exL pg (.block d ids (.loop live B)) ⟨e1,H1,l1⟩
 rw [qoO,qoO,quR k _ _ hi,qB1 hr]
def hdO:List (Nat × O):=hdT.zipIdx.map fun p=>(p.2,.c p.1)
def faA:C:=.seq .skip (.ops [⟨(some 12),.mov (.t 0),none⟩,⟨(some 13),.build [(.s []),(.i .i64 0)] [(0,1,(.t 12))],none⟩,⟨(some 14),.box false (.t 13),none⟩,⟨(some 4),.mov (.t 14),none⟩])
def qAh:C:=.seq .skip (.ops [⟨(some 12),.mov (.t 0),none⟩,⟨(some 13),.build [(.s []),(.i .i64 285)] [(0,1,(.t 12))],none⟩,⟨(some 14),.box false (.t 13),none⟩,⟨(some 4),.mov (.t 14),none⟩,⟨some 15,.buildSlice (.agg [(.i .i64 0),(.i .i64 0),(.i .i64 0),(.s []),(.i .i32 0)]) 99 hdO,none⟩,⟨none,.store none ⟨1,false⟩ (.t 2) (.mv 15),none⟩])
def qKD:Fn:={f_scan_All with dfr:=some (11,.seq qAh (.block 0 [2,3] (.loop [2,3,4] jL)))}
def raA:C:=.seq (.seq (.seq (.ops [⟨(some 2),.mov (.c .nil),none⟩,⟨(some 3),.mov (.c (.i .i64 0)),none⟩,⟨(some 4),.mov (.c (.i .i64 0)),none⟩]) (.seq (.ops [⟨(some 11),.mov (.t 0),none⟩,⟨(some 12),.bi .lenS [(.t 11)],none⟩,⟨(some 13),.bin .gtr .num (.t 12) (.c (.i .i64 20000)),none⟩]) (.cond (.t 13) .stuck .skip))) (.ops [⟨(some 5),.mov (.c .nil),none⟩])) (.ops [⟨(some 6),.mov (.c (.i .i64 0)),none⟩])
def qGv:C:=.seq (.seq (.seq (.ops [⟨(some 2),.mov (.c .nil),none⟩,⟨(some 3),.mov (.c (.i .i64 0)),none⟩,⟨(some 4),.mov (.c (.i .i64 0)),none⟩]) (.seq (.ops [⟨(some 11),.mov (.t 0),none⟩,⟨(some 12),.bi .lenS [(.t 11)],none⟩,⟨(some 13),.bin .gtr .num (.t 12) (.c (.i .i64 20000)),none⟩]) (.cond (.t 13) .stuck .skip))) (.ops [⟨some 14,.buildSlice (.agg [(.i .i64 0),(.i .i64 0),(.i .i64 0),(.s []),(.i .i32 0)]) 99 hdO,none⟩,⟨some 5,.mov (.mv 14),none⟩])) (.ops [⟨(some 6),.mov (.c (.i .i64 285)),none⟩])
def ScanP:Fn:={f_waferref11_Scan with body:=.seq qGv (.block 0 [2,3,4] (.loop [0,5,6] yh))}
noncomputable def pgP:Pg:=⟨fun n=>bif qOC n 10016 then some qKD else bif qOC n 10013 then some ScanP else pg1.fn n,pg1.ext⟩
theorem qsZ:qu pgP.ext:=qpY (gone:=fun _=>false) (T:=qvd)
def tlF (c:List Nat):List Nat:=hdS++c
noncomputable def qEC (pg:Pg) (fn:Fn) (H:List Obj) (t:Nat) (rest:C) (r:Option (Ex × St)):Option Cr:=match r with
 | some (.nrm,st)=>deferred pg (exL pg) fn H t rest st
 | some (.ret,st)=>zL fn H st
 | some (.pan v,st)=>leave H true v st
 | _=>none
theorem qsA {pg:Pg} {f:Nat} {fn:Fn} {vs:List V} {H:List Obj} {t:Nat} {rest:C} (hf:pg.fn f=some fn) (hn:fn.np=vs.length) (hd:fn.dfr=some (t,rest)) (hr:fn.rcv=none) :
  qh pg f vs H=qEC pg fn H t rest (exL pg fn.body {env:=kf 0 vs,H,lo:=H.length}):=by
 rw [qib]
 simp only [qm,hf,hn,hd,hr,and_self,if_true,qEC]
 all_goals rfl
def stO (r:Option (Ex × St)):St:=match r with
 | some (_,st)=>st
 | none=>⟨[],[],0⟩
noncomputable def goP (A:C) (st:St):Option (Ex × St):=exJ (ji pgP 1000) 1000 A st
noncomputable def aF (s:List Nat):St:=stO (goP f_scan_All.body ⟨[(0,.d (.s s))],[],0⟩)
noncomputable def bF (s:List Nat):St:=stO (goP faA (aF s))
noncomputable def cF (s:List Nat):St:=stO (goP qAh (aF s))
def eF:Env:=[(2,.ptr 0 0),(3,.ptr 1 0),(4,.ptr 2 0)]
structure ShF (s:List Nat):Prop where
 h:goP f_scan_All.body ⟨[(0,.d (.s s))],[],0⟩=some (.nrm,aF s)
 h0:goP faA (aF s)=some (.nrm,bF s)
 h1:goP qAh (aF s)=some (.nrm,cF s)
 hi:qvQ (ji pgP 1000) [2,3,4] jL 99 (bF s)=some ⟨eF,(cF s).H,(cF s).lo⟩
 hr:restrict [2,3,4] eF=restrict [2,3,4] (cF s).env
noncomputable def bR (s:List Nat):St:=stO (goP raA ⟨[(0,.d (.s s))],[],0⟩)
noncomputable def cR (s:List Nat):St:=stO (goP qGv ⟨[(0,.d (.s s))],[],0⟩)
def eR (s:List Nat):Env:=[(0,.d (.s s)),(5,.osl hdT),(6,.d (.i .i64 285))]
structure ShR (s:List Nat):Prop where
 h0:goP raA ⟨[(0,.d (.s s))],[],0⟩=some (.nrm,bR s)
 h1:goP qGv ⟨[(0,.d (.s s))],[],0⟩=some (.nrm,cR s)
 hi:qvQ (ji pgP 1000) [0,5,6] yh 99 (bR s)=some ⟨eR s,(cR s).H,(cR s).lo⟩
 hr:restrict [0,5,6] (eR s)=restrict [0,5,6] (cR s).env
theorem qJo {s:List Nat} (h:ShF s):qh pgP 16 [.d (.s s)] []=qh pgP 10016 [.d (.s s)] []:=by
 have e0:exL pgP f_scan_All.body ⟨[(0,.d (.s s))],[],0⟩=some (.nrm,aF s):=qrt (qde pgP 1000) 1000 _ _ _ h.h
 have e1:exL pgP qbh (aF s)=exL pgP (.seq qAh (.block 0 [2,3] (.loop [2,3,4] jL))) (aF s):=
  (seq_as (a:=.skip)).trans (share (A:=faA) h.h0 h.h1 h.hi h.hr)
 rw [qsA (fn:=f_scan_All) (t:=11) (rest:=qbh) rfl rfl rfl rfl,qsA (fn:=qKD) (t:=11) (rest:=.seq qAh (.block 0 [2,3] (.loop [2,3,4] jL))) rfl rfl rfl rfl]
 show qEC pgP f_scan_All [] 11 qbh (exL pgP f_scan_All.body ⟨[(0,.d (.s s))],[],0⟩)=qEC pgP qKD [] 11 _ (exL pgP f_scan_All.body ⟨[(0,.d (.s s))],[],0⟩)
 rw [e0]
 show deferred pgP (exL pgP) f_scan_All [] 11 qbh (aF s)=deferred pgP (exL pgP) f_scan_All [] 11 (.seq qAh (.block 0 [2,3] (.loop [2,3,4] jL))) (aF s)
 unfold deferred
 rw [e1]
theorem qEd {s:List Nat} (h:ShR s):qh pgP 13 [.d (.s s)] []=qh pgP 10013 [.d (.s s)] []:=by
 have e1:exL pgP f_waferref11_Scan.body ⟨[(0,.d (.s s))],[],0⟩=exL pgP ScanP.body ⟨[(0,.d (.s s))],[],0⟩:=
  (seq_as.trans (seq_as.trans seq_as)).trans (share (A:=raA) h.h0 h.h1 h.hi h.hr)
 rw [kZ (fn:=f_waferref11_Scan) rfl rfl,kZ (fn:=ScanP) rfl rfl]
 show qyO [] false _ (exL pgP f_waferref11_Scan.body ⟨[(0,.d (.s s))],[],0⟩)=qyO [] false _ (exL pgP ScanP.body ⟨[(0,.d (.s s))],[],0⟩)
 rw [e1]
 rfl
def tkT (c:List Nat):D:=.sl (hdT++toks 286 [] c)
def eSP (c:List Nat):Ent:=⟨16,[.s (tlF c)],.tup [tkT c,.nil]⟩
def eRP (c:List Nat):Ent:=⟨13,[.s (tlF c)],.tup [tkT c,.i .i64 0,.i .i64 0]⟩
def eTP (c:List Nat):Ent:=⟨8,[.s (tlF c),.nil],.one (.b true)⟩
noncomputable def chk (c:List Nat):Bool:=frc (tlF c) fun s=>qwT (tkT c) fun t=>qAy (Ent.is (ji pgP 1000 10016 [.d (.s s)] []) (.tup [t,.nil])) (qAy (Ent.is (ji pgP 1000 10013 [.d (.s s)] []) (.tup [t,.i .i64 0,.i .i64 0])) (Ent.is (ji (pgU g1 (⟨16,[.s s],.tup [t,.nil]⟩::⟨13,[.s s],.tup [t,.i .i64 0,.i .i64 0]⟩::qvd)) 1000 8 [.d (.s s),.d .nil] []) (.one (.b true))))
noncomputable def pgS (c:List Nat):Pg:=pgU g1 (eSP c::eRP c::qvd)
theorem qFv {c:List Nat} (hF:ShF (tlF c)) (hR:ShR (tlF c)) (h:chk c=true):(eSP c).Ok pgP/\(eRP c).Ok pgP/\(eTP c).Ok (pgS c):=by
 unfold chk at h
 rw [qAD,qsr] at h
 obtain ⟨h1,h2⟩:=qtd h
 obtain ⟨h2,h3⟩:=qtd h2
 obtain ⟨l1,h1⟩:=qqY (f:=10016) (l:=[.s (tlF c)]) (r:=.tup [tkT c,.nil]) qsZ h1
 obtain ⟨l2,h2⟩:=qqY (f:=10013) (l:=[.s (tlF c)]) (r:=.tup [tkT c,.i .i64 0,.i .i64 0]) qsZ h2
 exact ⟨⟨l1,(qJo hF).trans h1⟩,⟨l2,(qEd hR).trans h2⟩,qqY (f:=8) (l:=[.s (tlF c),.nil]) (r:=.one (.b true)) qxZ h3⟩
def tlS (x y:List Nat):List Nat:=((x++[32,58,61,32])++y)++[32,69,78,68,32,77,46]
theorem qHz (x y:List Nat):tlF (tlS x y)=srS x y:=by simp only [tlF,tlS,srS,List.append_assoc]
theorem qD5:∀x ∈ lsS,∀y ∈ esS,13<=(tlS x y).length/\(tlS x y).length<=20:=by decide +kernel
noncomputable def qJ (l:List (List Nat)) (x:List Nat):Bool:=List.rec (motive:=fun _=>Bool) true (fun y _ ih=>qAy (chk (tlS x y)) ih) l
theorem qoc {x:List Nat}:∀{l:List (List Nat)},qJ l x=true->∀y ∈ l,chk (tlS x y)=true
 | [],_=>fun _ h=>by cases h
 | y::l,h=>fun z hz=>by
  obtain ⟨h1,h2⟩:=qtd (show qAy (chk (tlS x y)) (qJ l x)=true from h)
  rcases List.mem_cons.1 hz with rfl|hz
  ·exact h1
  ·exact qoc h2 z hz
end W
