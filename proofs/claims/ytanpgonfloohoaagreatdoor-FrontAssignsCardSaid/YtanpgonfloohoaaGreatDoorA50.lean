/-
  FrontAssigns, part 50.
-/
import Derived.Test.YtanpgonfloohoaaGreatDoorA8
import Derived.Test.YtanpgonfloohoaaGreatDoorA9
import Derived.Test.YtanpgonfloohoaaGreatDoorA20
import Derived.Test.YtanpgonfloohoaaGreatDoorA49
set_option linter.unusedSimpArgs false
set_option linter.unusedVariables false
/- FrontAssigns: what may be assigned to what. -/
namespace Go.Proofs.YtanpgonfloohoaaGreatDoor
open Go.ChangeShapes Go.WideShapes Go.ChangeAt Go.RowKit W
set_option maxRecDepth 100000
theorem qFJ {g:Gh} {w:World} {vs:List V} {H:List W.Obj} {r:Cr} (h:ixX vs H=some r) {argv:List Value} (ha:ArgsRep maps g w 0 vs argv) (hH:RelH maps g w H):qtZ Tryz.prog 296 argv.toArray w (qG maps g w r):=
 qDj Tryz.func296 (by decide +kernel) (by kernel_rfl) (by kernel_rfl) (by kernel_rfl) h ha hH
theorem qsY {q:Pg} (hs:∀n,qn Tryz.prog maps (kA q n)) {f:Nat} {vs:List V} {H:List W.Obj} {r:Cr} (h:qh q f vs H=some r) {f':FuncId} (hl:W.look maps.fm f'=some f) {g:Gh} {w:World} {argv:List Value} (ha:ArgsRep maps g w 0 vs argv) (hH:RelH maps g w H):qtZ Tryz.prog f' argv.toArray w (qG maps g w r):=by
 obtain ⟨n,hn⟩:=je.1 h
 exact hs n _ _ _ _ hn _ hl g w argv ha hH
theorem tc:qm0 Tryz.prog maps W.pg:=qwP qG8 (fun i fn hf=>by
 unfold W.pg W.prog at hf
 simp only [Bool.cond_eq_ite] at hf
 repeat' split at hf
 all_goals first|(cases hf;done)|exact hf) fun _ _ h=>z4 h
theorem sim:qn Tryz.prog maps W.pg.ext:=by
 intro i vs H r h f' hl g w argv ha hH
 have e:f'=i:=z4 hl
 subst e
 unfold W.pg at h
 simp only [Bool.cond_eq_ite] at h
 split at h
 ·rename_i hb
  have e2:f'=296:=by simpa using hb
  subst e2
  exact qFJ h ha hH
 ·cases h
theorem s (n:Nat):qn Tryz.prog maps (kA W.pg n):=quf (by kernel_rfl) tc qri (fun _ _ h=>z4 h) sim qt4 n
theorem tcT (gone:Nat->Bool) (T:List Ent):qm0 Tryz.prog maps (pgT gone T):=qwP qG8 (fun i fn hf=>by
 unfold pgT W.pg W.prog at hf
 simp only [Bool.cond_eq_ite] at hf
 repeat' split at hf
 all_goals first|(cases hf;done)|exact hf) fun _ _ h=>z4 h
theorem sT {gone:Nat->Bool} {T:List Ent} (hT:∀e ∈ T,∃q:Pg,(∀n,qn Tryz.prog maps (kA q n))/\e.Ok q) (n:Nat):qn Tryz.prog maps (kA (pgT gone T) n):=
 quf (by kernel_rfl) (tcT gone T) qri (fun _ _ h=>z4 h) (by
  intro i vs H r h f' hl g w argv ha hH
  have e:f'=i:=z4 hl
  subst e
  rcases qro h with h|h
  ·exact qsY s h hl ha hH
  ·exact qop hT _ _ _ _ h _ hl g w argv ha hH) qpY n
theorem t0:∀e ∈ qvd,∃q:Pg,(∀n,qn Tryz.prog maps (kA q n))/\e.Ok q:=fun e he=>⟨_,s,qDw e he⟩
theorem s1 (n:Nat):qn Tryz.prog maps (kA W.pg1 n):=sT t0 n
theorem more {T:List Ent} (h:∀e ∈ T,∃q:Pg,(∀n,qn Tryz.prog maps (kA q n))/\e.Ok q):∀e ∈ T++qvd,∃q:Pg,(∀n,qn Tryz.prog maps (kA q n))/\e.Ok q:=fun e he=>(List.mem_append.1 he).elim (h e) (t0 e)
theorem qNT {gone:Nat->Bool} {T:List Ent} (hT:∀e ∈ T,∃q:Pg,(∀n,qn Tryz.prog maps (kA q n))/\e.Ok q):qn Tryz.prog maps (pgT gone T).ext:=by
 intro i vs H r h f' hl g w argv ha hH
 have e:f'=i:=z4 hl
 subst e
 rcases qro h with h|h
 ·exact qsY s h hl ha hH
 ·exact qop hT _ _ _ _ h _ hl g w argv ha hH
theorem tcP:qm0 Tryz.prog maps W.pgP:=fun f' i hl fn' hf=>by
 unfold W.pgP at hf
 simp only [Bool.cond_eq_ite] at hf
 split at hf
 ·rename_i hb
  cases Nat.eq_of_beq_eq_true hb
  have e:f'=10016:=z4 hl
  subst e
  exact absurd hl (by rw [show W.look maps.fm 10016=none from by kernel_rfl];intro h;cases h)
 ·split at hf
  ·rename_i hb
   cases Nat.eq_of_beq_eq_true hb
   have e:f'=10013:=z4 hl
   subst e
   exact absurd hl (by rw [show W.look maps.fm 10013=none from by kernel_rfl];intro h;cases h)
  ·exact tcT (fun _=>false) qvd f' i hl fn' hf
theorem sP (n:Nat):qn Tryz.prog maps (kA W.pgP n):=quf (by kernel_rfl) tcP qri (fun _ _ h=>z4 h) (qNT (gone:=fun _=>false) t0) qsZ n
theorem tcU (gone:Nat->Bool) (T:List Ent):qm0 Tryz.prog maps (pgU gone T):=qwP qG8 (fun i fn hf=>by
 unfold pgU W.pg W.prog at hf
 simp only [Bool.cond_eq_ite] at hf
 repeat' split at hf
 all_goals first|(cases hf;done)|exact hf) fun _ _ h=>z4 h
theorem sU {gone:Nat->Bool} {T:List Ent} (hT:∀e ∈ T,∃q:Pg,(∀n,qn Tryz.prog maps (kA q n))/\e.Ok q) (n:Nat):qn Tryz.prog maps (kA (pgU gone T) n):=
 quf (by kernel_rfl) (tcU gone T) qri (fun _ _ h=>z4 h) (by
  intro i vs H r h f' hl g w argv ha hH
  have e:f'=i:=z4 hl
  subst e
  rcases qyw h with h|h|h
  ·exact qsY s h hl ha hH
  ·exact qsY s1 h hl ha hH
  ·exact qop hT _ _ _ _ h _ hl g w argv ha hH) qxZ n
theorem qNU:qn Tryz.prog maps W.pgL.ext:=by
 intro i vs H r h f' hl g w argv ha hH
 have e:f'=i:=z4 hl
 subst e
 unfold W.pgL at h
 simp only [Bool.cond_eq_ite] at h
 split at h
 ·rename_i hb
  have e2:f'=8:=by simpa using hb
  subst e2
  obtain ⟨x,hx,y,hy,rfl,rfl⟩:=qp5 h
  obtain ⟨h1,h2,h3⟩:=qGR hx hy
  rw [<- qHz] at ha
  exact qyg (sU (more (T:=[eSP (tlS x y),eRP (tlS x y)]) (by
   simp only [List.forall_mem_cons]
   exact ⟨⟨_,sP,h1⟩,⟨_,sP,h2⟩,fun _ h=>by cases h⟩))) h3 hl hH ha
 ·exact qop (fun e he=>by
   simp only [faL,List.mem_singleton] at he
   subst he
   exact ⟨_,s1,qC6⟩) _ _ _ _ h _ hl g w argv ha hH
theorem qN8 {i:Nat} {fn:W.Fn} (hf:W.pgL.fn i=some fn):i=6/\fn=qt:=by
 unfold W.pgL at hf
 simp only [Bool.cond_eq_ite] at hf
 split at hf
 ·rename_i hb
  cases Nat.eq_of_beq_eq_true hb
  cases hf
  exact ⟨rfl,rfl⟩
 ·cases hf
theorem qOu:Tab Tryz.prog maps W.pgL:=⟨fun f' i hl fn' hf=>by
 obtain rfl:f'=i:=z4 hl
 obtain ⟨rfl,rfl⟩:=qN8 hf
 exact ⟨_,_,_,Tryz.func6,by decide +kernel,qNN⟩,qri⟩
def qDk:D->List Int
 | .agg l=>l.map fun d=>match d with | .i _ n=>n|_=>0
 | _=>[]
theorem qn4 {α:Type} {n:Nat} {x:α}:∀{l:List (Nat × α)},W.look l n=some x->(n,x) ∈ l
 | [],h=>by cases h
 | (m,y)::l,h=>by
  simp only [W.look,Bool.cond_eq_ite] at h
  split at h
  ·rename_i hb
   cases h
   have:=Nat.eq_of_beq_eq_true hb
   subst this
   exact .head _
  ·exact .tail _ (qn4 h)
theorem qth {W:World} (hL:laidMetH Tryz.prog Rows.frontAssignsRow.laid W) {name:String} {k:IntKind} {d:D} {g:Nat} {t e:TypeId} {n:Nat}
  (hg:Tryz.prog.globalNamed name=some g) (hty:(Tryz.prog.globals[g]?).map (·.type)=some t) (ht:Tryz.prog.underlying t=some (.array n e)) (he:Tryz.prog.underlying e=some (.int k)) (hce:Tryz.prog.cellsOf e=1) (hct:Tryz.prog.cellsOf t=n)
  (hm:(name,Go.Lib.tabData k (qDk d)) ∈ Rows.frontAssignsRow.laid) (hd:d=.agg ((qDk d).map (D.i k))) (h0:(qDk d).isEmpty=false) :
  ∃name k zs,Tryz.prog.globalNamed name=some g/\d=.agg (zs.map (D.i k))/\zs≠[]/\Go.Lib.TabIs Tryz.prog W name k zs:=by
 obtain ⟨ps,hv,_⟩:=(show laidMet Tryz.prog Rows.frontAssignsRow.laid W from hL)
 exact ⟨name,k,qDk d,hg,hd,(fun h=>by rw [h] at h0;cases h0),qso hg hty ht he hce hct hv hm⟩
theorem qOd {W:World} (hL:laidMetH Tryz.prog Rows.frontAssignsRow.laid W):GlOk maps (g0 W) W:=by
 refine qzj (P:=Tryz.prog) ?_ fun n x hn=>?_
 ·intro n hn;exact absurd hn (by simp [maps])
 have hm:=qn4 hn
 simp only [maps,List.mem_cons,Prod.mk.injEq,List.not_mem_nil,or_false] at hm
 rcases hm with ⟨rfl,rfl⟩|⟨rfl,rfl⟩|⟨rfl,rfl⟩|⟨rfl,rfl⟩
 ·exact qth hL (name:= "strings.asciiSpace") (k:=.u8) (d:=glD 0) (by kernel_rfl) (by kernel_rfl) Tryz.underlying207 Tryz.underlying5 (by kernel_rfl) (by kernel_rfl) (.head _) rfl rfl
 ·exact qth hL (name:= "internal/strconv.uint64pow10") (k:=.u64) (d:=glD 5) (by kernel_rfl) (by kernel_rfl) Tryz.underlying366 Tryz.underlying188 (by kernel_rfl) (by kernel_rfl) (.tail _ (.tail _ (.tail _ (.tail _ (.head _))))) rfl rfl
 ·exact qth hL (name:= "math/bits.deBruijn32tab") (k:=.u8) (d:=glD 6) (by kernel_rfl) (by kernel_rfl) Tryz.underlying370 Tryz.underlying5 (by kernel_rfl) (by kernel_rfl) (.tail _ (.tail _ (.tail _ (.tail _ (.tail _ (.head _)))))) rfl rfl
 ·exact qth hL (name:= "math/bits.deBruijn64tab") (k:=.u8) (d:=glD 7) (by kernel_rfl) (by kernel_rfl) Tryz.underlying371 Tryz.underlying5 (by kernel_rfl) (by kernel_rfl) (.tail _ (.tail _ (.tail _ (.tail _ (.tail _ (.tail _ (.head _))))))) rfl rfl
theorem contract (H:Type) (enc:TypeId × Value->H) (w0:World) (base:Nat) (args:Array Value) (ds gs:List (DataW H)) (before:List MemPlace)
  (hval:∀(j:Nat) t v,Tryz.f6.params[j]?=some t->args[j]?=some v->Value.okWide Tryz.prog w0 .any base t v)
  (hW:DataW.Whole enc Tryz.prog Tryz.f6.params.toList Rows.frontAssignsSpec.vars false w0 args.toList ds gs before) (hL:laidMetH Tryz.prog Rows.frontAssignsRow.laid w0) :
  Calls Tryz.prog 6 args w0 fun e W'=>∃v,e=.returned v/\Rows.frontAssignsSpec.post enc Tryz.prog Tryz.f6 false true false false w0 args v W':=by
 have hW':=hW
 obtain ⟨p,q,hA,hV,_⟩:=hW
 have hs:Rows.frontAssignsSpec.fn H ds={results:=[.lit (.bool true)],args:=ds}:=by
  have hA:DataW.TrodAll enc Tryz.prog w0 0 (fun _=>true) true Tryz.f6.params.toList args.toList ds p:=hA
  rw [Tryz.params6] at hA
  obtain ⟨v0,vs0,d0,ds0,p0,q0,_,rfl,_,_,r0⟩:=trodAll_cons hA
  obtain ⟨v1,vs1,d1,ds1,p1,q1,_,rfl,_,_,r1⟩:=trodAll_cons r0
  obtain ⟨_,rfl,_⟩:=trodAll_nil r1
  rfl
 refine qtQ (M:=maps) (pg:=W.pgL) (i:=6) (ts:=[5]) (tb:=4) (b:=base) (r:=.any) (qOd hL) (by kernel_rfl) qOu qNU qEG (by kernel_rfl) (by decide)
  (by kernel_rfl) (by rw [Tryz.params6];decide) qDM hval rfl hW' hs (by kernel_rfl) Tryz.underlying4 jf1 (by rw [Tryz.params6];decide +kernel) ?_
 intro xs hxs _
 rw [Tryz.params6] at hxs
 cases hxs with
 | cons h0 hxs=>
  cases hxs with
  | cons h1 hxs=>
   cases hxs
   obtain ⟨a,rfl,ha⟩:=qyF Tryz.underlying5 h0
   obtain ⟨b,rfl,hb⟩:=qyF Tryz.underlying5 h1
   simp [Lit.wf,IntKind.min,IntKind.max,IntKind.bits,IntKind.signed] at ha hb
   obtain ⟨a,rfl⟩:=Int.eq_ofNat_of_zero_le ha.1
   obtain ⟨b,rfl⟩:=Int.eq_ofNat_of_zero_le hb.1
   obtain ⟨lo,hr⟩:=qvG (a:=a) (b:=b) (by omega) (by omega)
   obtain ⟨n,hn⟩:=je.1 hr
   exact ⟨n,_,hn,rfl,rfl⟩
noncomputable def qoD (os:Os):World:=World.laidAll Tryz.prog os Rows.frontAssignsRow.laid
theorem qCq (os:Os):laidMetH Tryz.prog Rows.frontAssignsRow.laid ((qoD os).forCall (fun _ _=>0) ⟨#[],#[.int .u8 0,.int .u8 0],[]⟩).memory:=
 laidMet_laidAll (P:=Tryz.prog) (os:=os) (laid:=Rows.frontAssignsRow.laid) #[.int .u8 0,.int .u8 0] (by kernel_rfl) (by kernel_rfl)
theorem reads (os:Os) {H:Type} (enc:TypeId × Value->H):∃places,DataW.whole enc Tryz.prog ((qoD os).forCall (fun _ _=>0) ⟨#[],#[.int .u8 0,.int .u8 0],[]⟩).memory Tryz.f6.params.toList Rows.frontAssignsSpec.vars false #[Value.int .u8 0,.int .u8 0].toList 8=some ([.lit (.int .u8 0),.lit (.int .u8 0)],[],places):=
 ⟨[],by kernel_rfl⟩
theorem lifted (os:Os) (started:os.Started) (H:Type) (enc:TypeId × Value->H) (F:Stop.Interp) :
  ReturnsInHanded {} Tryz.checked os 6 .any ((OpenSpec.ofChange Rows.frontAssignsSpec).preRow enc Tryz.prog Tryz.f6 Rows.frontAssignsRow.domain false Rows.frontAssignsRow.laid) (((OpenSpec.ofChange Rows.frontAssignsSpec).at F).post enc Tryz.prog Tryz.f6 false true false false):=by
 obtain ⟨places,hx⟩:=reads os enc
 refine returnsInHanded_of_row (C:=Tryz.checked) (s:=OpenSpec.ofChange Rows.frontAssignsSpec) own started (by kernel_rfl) Tryz.func6
  (witness_row_atRef (enc:=enc) (C:=Tryz.checked) false (qoD os) #[.int .u8 0,.int .u8 0] (World.laidAll_os _ _ _) (by kernel_rfl) (by kernel_rfl) (by kernel_rfl)
   (OpenSpec.preRow_of_cond 8 hx (by kernel_rfl) (fun k hk=>by cases hk) (by kernel_rfl) (qCq os))) ?_
 intro W base args ds gs before hval hW _ _ _ hL _ _
 exact contract H enc W base args ds gs before hval hW hL
theorem said:Rows.FrontAssignsSaid:=
 OpenClaim.holds_of_cond 6 Tryz.f6 rfl rfl rfl rfl rfl rfl rfl ⟨rfl,rfl,rfl,rfl,rfl⟩ rfl rfl rfl rfl rfl (by kernel_rfl) Tryz.func6 closed
  (of_decide_eq_true (by kernel_rfl)) (by unfold Func.isWrapper;first|(rw [if_pos (by decide +kernel)];kernel_rfl)|(rw [if_neg (by decide +kernel)];exact ⟨rfl,rfl⟩))
  (fun os started H enc _ F=>by rw [OpenClaim.pre_eq_preRow];exact lifted os started H enc F)
end Go.Proofs.YtanpgonfloohoaaGreatDoor
