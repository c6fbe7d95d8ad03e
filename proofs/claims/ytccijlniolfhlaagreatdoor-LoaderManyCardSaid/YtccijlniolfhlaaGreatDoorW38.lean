/-
  LoaderMany, part 38.
-/
import Derived.Test.YtccijlniolfhlaaGreatDoorW7
import Derived.Test.YtccijlniolfhlaaGreatDoorW14
import Derived.Test.YtccijlniolfhlaaGreatDoorW26
import Derived.Test.YtccijlniolfhlaaGreatDoorW37
set_option linter.unusedSimpArgs false
set_option linter.unusedVariables false
/- LoaderMany: just how many modules there may be. -/
namespace Go.Proofs.YtccijlniolfhlaaGreatDoor
open Go.ChangeShapes Go.WideShapes Go.ChangeAt Go.RowKit W
set_option maxRecDepth 100000
theorem qx1 {g:Gh} {w:World} {vs:List V} {H:List W.Obj} {r:Cr} (h:ixX vs H=some r) {argv:List Value} (ha:ArgsRep maps g w 0 vs argv) (hH:RelH maps g w H):qsQ Tryz.prog 489 argv.toArray w (qy maps g w r):=
 qBc Tryz.func489 (by decide +kernel) (by kernel_rfl) (by kernel_rfl) (by kernel_rfl) h ha hH
theorem tc:qmL Tryz.prog maps W.pg:=qzo qIc (fun i fn hf=>by
 unfold W.pg W.prog at hf
 simp only [Bool.cond_eq_ite] at hf
 repeat' split at hf
 all_goals first|(cases hf;done)|exact hf) fun _ _ h=>qed h
theorem sim:qn Tryz.prog maps W.pg.ext:=by
 intro i vs H r h f' hl g w argv ha hH
 have e:f'=i:=qed hl
 subst e
 unfold W.pg at h
 simp only [Bool.cond_eq_ite] at h
 split at h
 ·rename_i hb
  have e2:f'=489:=by simpa using hb
  subst e2
  exact qx1 h ha hH
 ·cases h
theorem s (n:Nat):qn Tryz.prog maps (zh W.pg n):=qyC (by kernel_rfl) tc quf (fun _ _ h=>qed h) sim qzP n
theorem tcT (gone:Nat->Bool) (T:List Ent):qmL Tryz.prog maps (W.pgT gone T):=qzo qIc (fun i fn hf=>by
 unfold W.pgT W.pg W.prog at hf
 simp only [Bool.cond_eq_ite] at hf
 repeat' split at hf
 all_goals first|(cases hf;done)|exact hf) fun _ _ h=>qed h
theorem qIw {gone:Nat->Bool} {T:List Ent} (hT:∀e ∈ T,∃q:Pg,(∀n,qn Tryz.prog maps (zh q n))/\e.Ok q):qn Tryz.prog maps (W.pgT gone T).ext:=by
 intro i vs H r h f' hl g w argv ha hH
 have e:f'=i:=qed hl
 subst e
 unfold W.pgT at h
 simp only [Bool.cond_eq_ite] at h
 split at h
 ·rename_i hb
  have e2:f'=489:=by simpa using hb
  subst e2
  exact qx1 h ha hH
 ·exact qxJ hT _ _ _ _ h _ hl g w argv ha hH
theorem s1 (n:Nat):qn Tryz.prog maps (zh W.pg1 n):=qyC (by kernel_rfl) (tcT _ _) quf (fun _ _ h=>qed h) (qIw fun e he=>⟨_,s,qvA e he⟩) jV n
theorem qJn:qn Tryz.prog maps W.pgM.ext:=qIw fun e he=>(qEr e he).elim (fun h=>⟨_,s,h⟩) fun h=>⟨_,s1,h⟩
def qAj:D->List Int
 | .agg l=>l.map fun d=>match d with | .i _ n=>n|_=>0
 | _=>[]
theorem qmw {α:Type} {n:Nat} {x:α}:∀{l:List (Nat × α)},W.look l n=some x->(n,x) ∈ l
 | [],h=>by cases h
 | (m,y)::l,h=>by
  simp only [W.look,Bool.cond_eq_ite] at h
  split at h
  ·rename_i hb
   cases h
   have:=Nat.eq_of_beq_eq_true hb
   subst this
   exact .head _
  ·exact .tail _ (qmw h)
theorem qrX {W:World} (hL:laidMetH Tryz.prog Rows.loaderManyRow.laid W) {name:String} {k:IntKind} {d:D} {g:Nat} {t e:TypeId} {n:Nat}
  (hg:Tryz.prog.globalNamed name=some g) (hty:(Tryz.prog.globals[g]?).map (·.type)=some t) (ht:Tryz.prog.underlying t=some (.array n e)) (he:Tryz.prog.underlying e=some (.int k)) (hce:Tryz.prog.cellsOf e=1) (hct:Tryz.prog.cellsOf t=n)
  (hm:(name,Go.Lib.tabData k (qAj d)) ∈ Rows.loaderManyRow.laid) (hd:d=.agg ((qAj d).map (D.i k))) (h0:(qAj d).isEmpty=false) :
  ∃name k zs,Tryz.prog.globalNamed name=some g/\d=.agg (zs.map (D.i k))/\zs≠[]/\Go.Lib.TabIs Tryz.prog W name k zs:=by
 obtain ⟨ps,hv,_⟩:=(show laidMet Tryz.prog Rows.loaderManyRow.laid W from hL)
 exact ⟨name,k,qAj d,hg,hd,(fun h=>by rw [h] at h0;cases h0),qqQ hg hty ht he hce hct hv hm⟩
theorem qJb {W:World} (hL:laidMetH Tryz.prog Rows.loaderManyRow.laid W):GlOk maps (g0 W) W:=by
 refine qxw (P:=Tryz.prog) ?_ fun n x hn=>?_
 ·intro n hn;exact absurd hn (by simp [maps])
 have hm:=qmw hn
 simp only [maps,List.mem_cons,Prod.mk.injEq,List.not_mem_nil,or_false] at hm
 rcases hm with ⟨rfl,rfl⟩|⟨rfl,rfl⟩|⟨rfl,rfl⟩|⟨rfl,rfl⟩
 ·exact qrX hL (name:= "strings.asciiSpace") (k:=.u8) (d:=glD 0) (by kernel_rfl) (by kernel_rfl) Tryz.underlying421 Tryz.underlying5 (by kernel_rfl) (by kernel_rfl) (.head _) rfl rfl
 ·exact qrX hL (name:= "internal/strconv.uint64pow10") (k:=.u64) (d:=glD 5) (by kernel_rfl) (by kernel_rfl) Tryz.underlying518 Tryz.underlying52 (by kernel_rfl) (by kernel_rfl) (.tail _ (.tail _ (.tail _ (.tail _ (.head _))))) rfl rfl
 ·exact qrX hL (name:= "math/bits.deBruijn32tab") (k:=.u8) (d:=glD 13) (by kernel_rfl) (by kernel_rfl) Tryz.underlying541 Tryz.underlying5 (by kernel_rfl) (by kernel_rfl) (.tail _ (.tail _ (.tail _ (.tail _ (.tail _ (.head _)))))) rfl rfl
 ·exact qrX hL (name:= "math/bits.deBruijn64tab") (k:=.u8) (d:=glD 14) (by kernel_rfl) (by kernel_rfl) Tryz.underlying542 Tryz.underlying5 (by kernel_rfl) (by kernel_rfl) (.tail _ (.tail _ (.tail _ (.tail _ (.tail _ (.tail _ (.head _))))))) rfl rfl
theorem contract (H:Type) (enc:TypeId × Value->H) (w0:World) (base:Nat) (args:Array Value) (ds gs:List (DataW H)) (before:List MemPlace)
  (hval:∀(j:Nat) t v,Tryz.f3.params[j]?=some t->args[j]?=some v->Value.okWide Tryz.prog w0 .any base t v)
  (hW:DataW.Whole enc Tryz.prog Tryz.f3.params.toList Rows.loaderManySpec.vars false w0 args.toList ds gs before) (hL:laidMetH Tryz.prog Rows.loaderManyRow.laid w0) :
  Calls Tryz.prog 3 args w0 fun e W'=>∃v,e=.returned v/\Rows.loaderManySpec.post enc Tryz.prog Tryz.f3 false true false false w0 args v W':=by
 have hW':=hW
 obtain ⟨p,q,hA,hV,_⟩:=hW
 have hs:Rows.loaderManySpec.fn H ds={results:=[.lit (.bool true)],args:=ds}:=by
  have hA:DataW.TrodAll enc Tryz.prog w0 0 (fun _=>true) true Tryz.f3.params.toList args.toList ds p:=hA
  rw [Tryz.params3] at hA
  obtain ⟨v0,vs0,d0,ds0,p0,q0,_,rfl,_,_,r0⟩:=trodAll_cons hA
  obtain ⟨_,rfl,_⟩:=trodAll_nil r0
  rfl
 refine qqo (M:=maps) (i:=3) (ts:=[5]) (tb:=4) (b:=base) (r:=.any) (qJb hL) (by kernel_rfl) (by kernel_rfl)
  (by kernel_rfl) (by rw [Tryz.params3];decide) qAQ hval rfl hW' hs (by kernel_rfl) Tryz.underlying4 jf1 (by rw [Tryz.params3];decide +kernel) ?_
 intro xs hxs _
 rw [Tryz.params3] at hxs
 cases hxs with
 | cons h0 hxs=>
  cases hxs
  obtain ⟨a,rfl,ha⟩:=qAD Tryz.underlying5 h0
  simp [Lit.wf,IntKind.min,IntKind.max,IntKind.bits,IntKind.signed] at ha
  obtain ⟨a,rfl⟩:=Int.eq_ofNat_of_zero_le ha.1
  obtain ⟨r,hr,h1,h2⟩:=qzI (n:=a)
  obtain ⟨n,hn⟩:=jR.1 hr
  obtain ⟨pg',g1,g2,g3,g4,g5⟩:=qCX (tcT _ _) quf (fun _ _ h=>qed h) qJn jV (by decide) hn
  exact ⟨pg',n,r,g1,g2,g3,g4,g5,h1,h2⟩
noncomputable def qnc (os:Os):World:=World.laidAll Tryz.prog os Rows.loaderManyRow.laid
theorem qyN (os:Os):laidMetH Tryz.prog Rows.loaderManyRow.laid ((qnc os).forCall (fun _ _=>0) ⟨#[],#[.int .u8 0],[]⟩).memory:=
 laidMet_laidAll (P:=Tryz.prog) (os:=os) (laid:=Rows.loaderManyRow.laid) #[.int .u8 0] (by kernel_rfl) (by kernel_rfl)
theorem reads (os:Os) {H:Type} (enc:TypeId × Value->H):∃places,DataW.whole enc Tryz.prog ((qnc os).forCall (fun _ _=>0) ⟨#[],#[.int .u8 0],[]⟩).memory Tryz.f3.params.toList Rows.loaderManySpec.vars false #[Value.int .u8 0].toList 8=some ([.lit (.int .u8 0)],[],places):=
 ⟨[],by kernel_rfl⟩
theorem lifted (os:Os) (started:os.Started) (H:Type) (enc:TypeId × Value->H) (F:Stop.Interp) :
  ReturnsInHanded {} Tryz.checked os 3 .any ((OpenSpec.ofChange Rows.loaderManySpec).preRow enc Tryz.prog Tryz.f3 Rows.loaderManyRow.domain false Rows.loaderManyRow.laid) (((OpenSpec.ofChange Rows.loaderManySpec).at F).post enc Tryz.prog Tryz.f3 false true false false):=by
 obtain ⟨places,hx⟩:=reads os enc
 refine returnsInHanded_of_row (C:=Tryz.checked) (s:=OpenSpec.ofChange Rows.loaderManySpec) own started (by kernel_rfl) Tryz.func3
  (witness_row_atRef (enc:=enc) (C:=Tryz.checked) false (qnc os) #[.int .u8 0] (World.laidAll_os _ _ _) (by kernel_rfl) (by kernel_rfl) (by kernel_rfl)
   (OpenSpec.preRow_of_cond 8 hx (by kernel_rfl) (fun k hk=>by cases hk) (by kernel_rfl) (qyN os))) ?_
 intro W base args ds gs before hval hW _ _ _ hL _ _
 exact contract H enc W base args ds gs before hval hW hL
theorem said:Rows.LoaderManySaid:=
 OpenClaim.holds_of_cond 3 Tryz.f3 rfl rfl rfl rfl rfl rfl rfl ⟨rfl,rfl,rfl,rfl,rfl⟩ rfl rfl rfl rfl rfl (by kernel_rfl) Tryz.func3 closed
  (of_decide_eq_true (by kernel_rfl)) (by unfold Func.isWrapper;first|(rw [if_pos (by decide +kernel)];kernel_rfl)|(rw [if_neg (by decide +kernel)];exact ⟨rfl,rfl⟩))
  (fun os started H enc _ F=>by rw [OpenClaim.pre_eq_preRow];exact lifted os started H enc F)
end Go.Proofs.YtccijlniolfhlaaGreatDoor
