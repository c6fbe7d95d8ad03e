/-
  FrontNests, part 30.
-/
import Derived.Test.YtanpgonfloohoaaGreatDoorW8
import Derived.Test.YtanpgonfloohoaaGreatDoorW9
import Derived.Test.YtanpgonfloohoaaGreatDoorW10
import Derived.Test.YtanpgonfloohoaaGreatDoorW29
/- FrontNests: just how deep expressions, ( ), statements, types may be in one another. -/
set_option linter.unusedVariables false
set_option linter.unusedSimpArgs false
namespace Go.Proofs.YtanpgonfloohoaaGreatDoor
open Go.ChangeShapes Go.WideShapes Go.ChangeAt Go.RowKit W
set_option maxRecDepth 100000
theorem qCB {g:Gh} {w:World} {vs:List V} {H:List W.Obj} {r:Cr} (h:ixX vs H=some r) {argv:List Value} (ha:ArgsRep maps g w 0 vs argv) (hH:RelH maps g w H):qqi Tryz.prog 296 argv.toArray w (qJ maps g w r):=
 qz9 Tryz.func296 (by decide +kernel) (by kernel_rfl) (by kernel_rfl) (by kernel_rfl) h ha hH
theorem qDD {q:Pg} (hs:∀n,qx Tryz.prog maps (zu q n)) {f:Nat} {vs:List V} {H:List W.Obj} {r:Cr} (h:ql q f vs H=some r) {f':FuncId} (hl:W.look maps.fm f'=some f) {g:Gh} {w:World} {argv:List Value} (ha:ArgsRep maps g w 0 vs argv) (hH:RelH maps g w H):qqi Tryz.prog f' argv.toArray w (qJ maps g w r):=by
 obtain ⟨n,hn⟩:=jH.1 h
 exact hs n _ _ _ _ hn _ hl g w argv ha hH
theorem tc:qok Tryz.prog maps W.pg:=qyo qHc (fun i fn hf=>by
 unfold W.pg W.prog at hf
 simp only [Bool.cond_eq_ite] at hf
 repeat' split at hf
 all_goals first|(cases hf;done)|exact hf) fun _ _ h=>qfS h
theorem sim:qx Tryz.prog maps W.pg.ext:=by
 intro i vs H r h f' hl g w argv ha hH
 have e:f'=i:=qfS hl
 subst e
 unfold W.pg at h
 simp only [Bool.cond_eq_ite] at h
 split at h
 ·rename_i hb
  have e2:f'=296:=by simpa using hb
  subst e2
  exact qCB h ha hH
 ·cases h
theorem s (n:Nat):qx Tryz.prog maps (zu W.pg n):=qzt (by kernel_rfl) tc qtp (fun _ _ h=>qfS h) sim qud n
theorem tcT (gone:Nat→Bool) (T:List Ent):qok Tryz.prog maps (pgT gone T):=qyo qHc (fun i fn hf=>by
 unfold pgT W.pg W.prog at hf
 simp only [Bool.cond_eq_ite] at hf
 repeat' split at hf
 all_goals first|(cases hf;done)|exact hf) fun _ _ h=>qfS h
theorem sT {gone:Nat→Bool} {T:List Ent} (hT:∀e ∈ T,∃q:Pg,(∀n,qx Tryz.prog maps (zu q n))∧e.Ok q) (n:Nat):qx Tryz.prog maps (zu (pgT gone T) n):=
 qzt (by kernel_rfl) (tcT gone T) qtp (fun _ _ h=>qfS h) (by
  intro i vs H r h f' hl g w argv ha hH
  have e:f'=i:=qfS hl
  subst e
  rcases qsn h with h|h
  ·exact qDD s h hl ha hH
  ·exact qsC hT _ _ _ _ h _ hl g w argv ha hH) qco n
theorem t0:∀e ∈ qlD,∃q:Pg,(∀n,qx Tryz.prog maps (zu q n))∧e.Ok q:=fun e he=>⟨_,s,qAX e he⟩
theorem s1 (n:Nat):qx Tryz.prog maps (zu W.pg1 n):=sT t0 n
theorem more {T:List Ent} (h:∀e ∈ T,∃q:Pg,(∀n,qx Tryz.prog maps (zu q n))∧e.Ok q):∀e ∈ T++qlD,∃q:Pg,(∀n,qx Tryz.prog maps (zu q n))∧e.Ok q:=fun e he=>(List.mem_append.1 he).elim (h e) (t0 e)
theorem half {e:Ent} (h:qxw e):∃q:Pg,(∀n,qx Tryz.prog maps (zu q n))∧e.Ok q:=by
 obtain ⟨g,T,h1,h2⟩:=h
 exact ⟨_,sT (more fun e he=>⟨_,s1,h1 e he⟩),h2⟩
theorem qIw:qx Tryz.prog maps W.pgL.ext:=qsC fun e he=>by
 rcases qEa e he with h|⟨w,k,p,h1,h2,h3⟩
 ·exact ⟨_,s1,h⟩
 ·refine ⟨_,sT (more (T:=[eCF w k p,eCR w k p]) ?_),h3⟩
  simp only [List.forall_mem_cons]
  exact ⟨half h1,half h2,fun _ h=>by cases h⟩
theorem qIJ {i:Nat} {fn:W.Fn} (hf:W.pgL.fn i=some fn):i=3∧fn=qg:=by
 unfold W.pgL at hf
 simp only [Bool.cond_eq_ite] at hf
 split at hf
 ·rename_i hb
  cases Nat.eq_of_beq_eq_true hb
  cases hf
  exact ⟨rfl,rfl⟩
 ·cases hf
theorem qIz:Tab Tryz.prog maps W.pgL:=⟨fun f' i hl fn' hf=>by
 obtain rfl:f'=i:=qfS hl
 obtain ⟨rfl,rfl⟩:=qIJ hf
 exact ⟨_,_,_,Tryz.func3,by decide +kernel,qGJ⟩,qtp⟩
def qAo:D→List Int
 | .agg l=>l.map fun d=>match d with | .i _ n=>n|_=>0
 | _=>[]
theorem qlL {α:Type} {n:Nat} {x:α}:∀{l:List (Nat × α)},W.look l n=some x→(n,x) ∈ l
 | [],h=>by cases h
 | (m,y)::l,h=>by
  simp only [W.look,Bool.cond_eq_ite] at h
  split at h
  ·rename_i hb
   cases h
   have:=Nat.eq_of_beq_eq_true hb
   subst this
   exact .head _
  ·exact .tail _ (qlL h)
theorem qqe {W:World} (hL:laidMetH Tryz.prog Rows.frontNestsRow.laid W) {name:String} {k:IntKind} {d:D} {g:Nat} {t e:TypeId} {n:Nat}
  (hg:Tryz.prog.globalNamed name=some g) (hty:(Tryz.prog.globals[g]?).map (·.type)=some t) (ht:Tryz.prog.underlying t=some (.array n e)) (he:Tryz.prog.underlying e=some (.int k)) (hce:Tryz.prog.cellsOf e=1) (hct:Tryz.prog.cellsOf t=n)
  (hm:(name,Go.Lib.tabData k (qAo d)) ∈ Rows.frontNestsRow.laid) (hd:d=.agg ((qAo d).map (D.i k))) (h0:(qAo d).isEmpty=false) :
  ∃name k zs,Tryz.prog.globalNamed name=some g∧d=.agg (zs.map (D.i k))∧zs≠[]∧Go.Lib.TabIs Tryz.prog W name k zs:=by
 obtain ⟨ps,hv,_⟩:=(show laidMet Tryz.prog Rows.frontNestsRow.laid W from hL)
 exact ⟨name,k,qAo d,hg,hd,(fun h=>by rw [h] at h0;cases h0),qpF hg hty ht he hce hct hv hm⟩
theorem qIE {W:World} (hL:laidMetH Tryz.prog Rows.frontNestsRow.laid W):GlOk maps (g0 W) W:=by
 refine qwO (P:=Tryz.prog) ?_ fun n x hn=>?_
 ·intro n hn;exact absurd hn (by simp [maps])
 have hm:=qlL hn
 simp only [maps,List.mem_cons,Prod.mk.injEq,List.not_mem_nil,or_false] at hm
 rcases hm with ⟨rfl,rfl⟩|⟨rfl,rfl⟩|⟨rfl,rfl⟩|⟨rfl,rfl⟩
 ·exact qqe hL (name:= "strings.asciiSpace") (k:=.u8) (d:=glD 0) (by kernel_rfl) (by kernel_rfl) Tryz.underlying207 Tryz.underlying5 (by kernel_rfl) (by kernel_rfl) (.head _) rfl rfl
 ·exact qqe hL (name:= "internal/strconv.uint64pow10") (k:=.u64) (d:=glD 5) (by kernel_rfl) (by kernel_rfl) Tryz.underlying366 Tryz.underlying188 (by kernel_rfl) (by kernel_rfl) (.tail _ (.tail _ (.tail _ (.tail _ (.head _))))) rfl rfl
 ·exact qqe hL (name:= "math/bits.deBruijn32tab") (k:=.u8) (d:=glD 6) (by kernel_rfl) (by kernel_rfl) Tryz.underlying370 Tryz.underlying5 (by kernel_rfl) (by kernel_rfl) (.tail _ (.tail _ (.tail _ (.tail _ (.tail _ (.head _)))))) rfl rfl
 ·exact qqe hL (name:= "math/bits.deBruijn64tab") (k:=.u8) (d:=glD 7) (by kernel_rfl) (by kernel_rfl) Tryz.underlying371 Tryz.underlying5 (by kernel_rfl) (by kernel_rfl) (.tail _ (.tail _ (.tail _ (.tail _ (.tail _ (.tail _ (.head _))))))) rfl rfl
theorem contract (H:Type) (enc:TypeId × Value→H) (w0:World) (base:Nat) (args:Array Value) (ds gs:List (DataW H)) (before:List MemPlace)
  (hval:∀(j:Nat) t v,Tryz.f3.params[j]?=some t→args[j]?=some v→Value.okWide Tryz.prog w0 .any base t v)
  (hW:DataW.Whole enc Tryz.prog Tryz.f3.params.toList Rows.frontNestsSpec.vars false w0 args.toList ds gs before) (hL:laidMetH Tryz.prog Rows.frontNestsRow.laid w0) :
  Calls Tryz.prog 3 args w0 fun e W'=>∃v,e=.returned v∧Rows.frontNestsSpec.post enc Tryz.prog Tryz.f3 false true false false w0 args v W':=by
 have hW':=hW
 obtain ⟨p,q,hA,hV,_⟩:=hW
 have hs:Rows.frontNestsSpec.fn H ds={results:=[.lit (.bool true)],args:=ds}:=by
  have hA:DataW.TrodAll enc Tryz.prog w0 0 (fun _=>true) true Tryz.f3.params.toList args.toList ds p:=hA
  rw [Tryz.params3] at hA
  obtain ⟨v0,vs0,d0,ds0,p0,q0,_,rfl,_,_,r0⟩:=trodAll_cons hA
  obtain ⟨v1,vs1,d1,ds1,p1,q1,_,rfl,_,_,r1⟩:=trodAll_cons r0
  obtain ⟨_,rfl,_⟩:=trodAll_nil r1
  rfl
 refine qq3 (M:=maps) (pg:=W.pgL) (i:=3) (ts:=[5]) (tb:=4) (b:=base) (r:=.any) (qIE hL) (by kernel_rfl) qIz qIw qAI (by kernel_rfl) (by decide)
  (by kernel_rfl) (by rw [Tryz.params3];decide) qAc hval rfl hW' hs (by kernel_rfl) Tryz.underlying4 (by kernel_rfl) (by rw [Tryz.params3];decide +kernel) ?_
 intro xs hxs _
 rw [Tryz.params3] at hxs
 cases hxs with
 | cons h0 hxs=>
  cases hxs with
  | cons h1 hxs=>
   cases hxs
   obtain ⟨a,rfl,ha⟩:=qvh Tryz.underlying5 h0
   obtain ⟨b,rfl,hb⟩:=qvh Tryz.underlying5 h1
   simp [Lit.wf,IntKind.min,IntKind.max,IntKind.bits,IntKind.signed] at ha hb
   obtain ⟨a,rfl⟩:=Int.eq_ofNat_of_zero_le ha.1
   obtain ⟨b,rfl⟩:=Int.eq_ofNat_of_zero_le hb.1
   obtain ⟨lo,hr⟩:=qvE (w:=a) (n:=b)
   obtain ⟨n,hn⟩:=jH.1 hr
   exact ⟨n,_,hn,rfl,rfl⟩
noncomputable def qmF (os:Os):World:=World.laidAll Tryz.prog os Rows.frontNestsRow.laid
theorem qzs (os:Os):laidMetH Tryz.prog Rows.frontNestsRow.laid ((qmF os).forCall (fun _ _=>0) ⟨#[],#[.int .u8 0,.int .u8 0],[]⟩).memory:=
 laidMet_laidAll (P:=Tryz.prog) (os:=os) (laid:=Rows.frontNestsRow.laid) #[.int .u8 0,.int .u8 0] (by kernel_rfl) (by kernel_rfl)
theorem reads (os:Os) {H:Type} (enc:TypeId × Value→H):∃places,DataW.whole enc Tryz.prog ((qmF os).forCall (fun _ _=>0) ⟨#[],#[.int .u8 0,.int .u8 0],[]⟩).memory Tryz.f3.params.toList Rows.frontNestsSpec.vars false #[Value.int .u8 0,.int .u8 0].toList 8=some ([.lit (.int .u8 0),.lit (.int .u8 0)],[],places):=
 ⟨[],by kernel_rfl⟩
theorem lifted (os:Os) (started:os.Started) (H:Type) (enc:TypeId × Value→H) (F:Stop.Interp) :
  ReturnsInHanded {} Tryz.checked os 3 .any ((OpenSpec.ofChange Rows.frontNestsSpec).preRow enc Tryz.prog Tryz.f3 Rows.frontNestsRow.domain false Rows.frontNestsRow.laid) (((OpenSpec.ofChange Rows.frontNestsSpec).at F).post enc Tryz.prog Tryz.f3 false true false false):=by
 obtain ⟨places,hx⟩:=reads os enc
 refine returnsInHanded_of_row (C:=Tryz.checked) (s:=OpenSpec.ofChange Rows.frontNestsSpec) own started (by kernel_rfl) Tryz.func3
  (witness_row_atRef (enc:=enc) (C:=Tryz.checked) false (qmF os) #[.int .u8 0,.int .u8 0] (World.laidAll_os _ _ _) (by kernel_rfl) (by kernel_rfl) (by kernel_rfl)
   (OpenSpec.preRow_of_cond 8 hx (by kernel_rfl) (fun k hk=>by cases hk) (by kernel_rfl) (qzs os))) ?_
 intro W base args ds gs before hval hW _ _ _ hL _ _
 exact contract H enc W base args ds gs before hval hW hL
theorem said:Rows.FrontNestsSaid:=
 OpenClaim.holds_of_cond 3 Tryz.f3 rfl rfl rfl rfl rfl rfl rfl ⟨rfl,rfl,rfl,rfl,rfl⟩ rfl rfl rfl rfl rfl (by kernel_rfl) Tryz.func3 closed
  (of_decide_eq_true (by kernel_rfl)) (by unfold Func.isWrapper;first|(rw [if_pos (by decide +kernel)];kernel_rfl)|(rw [if_neg (by decide +kernel)];exact ⟨rfl,rfl⟩))
  (fun os started H enc _ F=>by rw [OpenClaim.pre_eq_preRow];exact lifted os started H enc F)
end Go.Proofs.YtanpgonfloohoaaGreatDoor
