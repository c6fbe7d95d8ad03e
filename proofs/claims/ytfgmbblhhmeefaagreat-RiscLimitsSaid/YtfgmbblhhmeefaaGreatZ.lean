/- RiscLimits: what code refuses to be made: of expressions that need too many registers, of too many words, of too great a heap. -/
import Derived.Test.YtfgmbblhhmeefaaGreatW42
set_option linter.unusedVariables false
set_option linter.unusedSimpArgs false
namespace Go.Proofs.YtfgmbblhhmeefaaGreat
open Go.ChangeShapes Go.WideShapes Go.ChangeAt Go.RowKit W
set_option maxRecDepth 100000
theorem qql {g:Gh} {w:World} {vs:List V} {H:List W.Obj} {r:Cr} (h:ixX vs H=some r) {argv:List Value} (ha:ArgsRep maps g w 0 vs argv) (hH:RelH maps g w H):qqb Tryz.prog 333 argv.toArray w (qG maps g w r):=
 qAy Tryz.func333 (by decide +kernel) (by kernel_rfl) (by kernel_rfl) (by kernel_rfl) h ha hH
theorem qy3 {q:Pg} (hs:∀n,qB Tryz.prog maps (zt q n)) {f:Nat} {vs:List V} {H:List W.Obj} {r:Cr} (h:qf q f vs H=some r) {f':FuncId} (hl:W.look maps.fm f'=some f) {g:Gh} {w:World} {argv:List Value} (ha:ArgsRep maps g w 0 vs argv) (hH:RelH maps g w H):qqb Tryz.prog f' argv.toArray w (qG maps g w r):=by
 obtain ⟨n,hn⟩:=zL.1 h
 exact hs n _ _ _ _ hn _ hl g w argv ha hH
theorem qAQ:Tab Tryz.prog maps W.pg:=⟨fun f' i hl fn' hf=>tab.1 f' i hl fn' (by
 unfold W.pg at hf
 simp only [Bool.cond_eq_ite] at hf
 repeat' split at hf
 all_goals first|(cases hf;done)|exact hf),tab.2⟩
theorem qG2:qB Tryz.prog maps W.pg.ext:=by
 intro i vs H r h f' hl g w argv ha hH
 have e:f'=i:=qiy hl
 subst e
 unfold W.pg at h
 simp only [Bool.cond_eq_ite] at h
 split at h
 ·rename_i hb
  have e2:f'=333:=by simpa using hb
  subst e2
  exact qql h ha hH
 ·cases h
theorem s1 (n:Nat):qB Tryz.prog maps (zt W.pg n):=sound (by kernel_rfl) qAQ qG2 kC n
theorem qHk:Tab Tryz.prog maps W.pgE:=⟨fun f' i hl fn' hf=>qAQ.1 f' i hl fn' (by
 unfold W.pgE at hf
 simp only [Bool.cond_eq_ite] at hf
 repeat' split at hf
 all_goals first|(cases hf;done)|exact hf),tab.2⟩
theorem qG5:qB Tryz.prog maps W.pgE.ext:=by
 intro i vs H r h f' hl g w argv ha hH
 have e:f'=i:=qiy hl
 subst e
 unfold W.pgE at h
 simp only [Bool.cond_eq_ite] at h
 split at h
 ·rename_i hb
  have e2:f'=333:=by simpa using hb
  subst e2
  exact qql h ha hH
 ·exact qhO (fun e he=>⟨W.pg,s1,qEQ e he⟩) _ _ _ _ h _ hl g w argv ha hH
theorem sE (n:Nat):qB Tryz.prog maps (zt W.pgE n):=sound (by kernel_rfl) qHk qG5 qp6 n
theorem qGR:Tab Tryz.prog maps W.pgG:=⟨fun f' i hl fn' hf=>qAQ.1 f' i hl fn' (by
 unfold W.pgG at hf
 simp only [Bool.cond_eq_ite] at hf
 repeat' split at hf
 all_goals first|(cases hf;done)|exact hf),tab.2⟩
theorem qGV:qB Tryz.prog maps W.pgG.ext:=by
 intro i vs H r h f' hl g w argv ha hH
 have e:f'=i:=qiy hl
 subst e
 unfold W.pgG at h
 simp only [Bool.cond_eq_ite] at h
 split at h
 ·rename_i hb
  have e2:f'=333:=by simpa using hb
  subst e2
  exact qql h ha hH
 ·split at h
  ·exact qhO (fun e he=>⟨W.pg,s1,qAI e he⟩) _ _ _ _ h _ hl g w argv ha hH
  ·split at h
   ·rename_i hb
    have e2:f'=56:=by simpa using hb
    subst e2
    exact qy3 s1 (qsp h) hl ha hH
   ·split at h
    ·rename_i hb
     have e2:f'=57:=by simpa using hb
     subst e2
     exact qy3 sE (qpG h) hl ha hH
    ·cases h
theorem sG (n:Nat):qB Tryz.prog maps (zt W.pgG n):=sound (by kernel_rfl) qGR qGV kT n
theorem qHj:Tab Tryz.prog maps W.pg3:=⟨fun f' i hl fn' hf=>qAQ.1 f' i hl fn' (by
 unfold W.pg3 at hf
 simp only [Bool.cond_eq_ite] at hf
 repeat' split at hf
 all_goals first|(cases hf;done)|exact hf),tab.2⟩
theorem qGY:qB Tryz.prog maps W.pg3.ext:=by
 intro i vs H r h f' hl g w argv ha hH
 have e:f'=i:=qiy hl
 subst e
 unfold W.pg3 at h
 simp only [Bool.cond_eq_ite] at h
 split at h
 ·rename_i hb
  have e2:f'=333:=by simpa using hb
  subst e2
  exact qql h ha hH
 ·split at h
  ·exact qhO (fun e he=>⟨W.pgE,sE,qEB e he⟩) _ _ _ _ h _ hl g w argv ha hH
  ·exact qhO (fun e he=>(qAW e he).elim (fun h=>⟨W.pg,s1,h⟩) (fun h=>⟨W.pgG,sG,h⟩)) _ _ _ _ h _ hl g w argv ha hH
theorem s3 (n:Nat):qB Tryz.prog maps (zt W.pg3 n):=sound (by kernel_rfl) qHj qGY qkf n
theorem qG7:Tab Tryz.prog maps W.pgL:=⟨fun f' i hl fn' hf=>tab.1 f' i hl fn' (by
 unfold W.pgL at hf
 simp only [Bool.cond_eq_ite] at hf
 split at hf
 ·rename_i hb
  cases hf
  obtain rfl:=Nat.eq_of_beq_eq_true hb
  rfl
 ·cases hf),tab.2⟩
theorem qG0:qB Tryz.prog maps W.pgL.ext:=qhO fun e he=>(qCB e he).elim (fun h=>⟨_,s1,h⟩) fun h=>h.elim (fun h=>⟨_,sG,h⟩) (fun h=>⟨_,s3,h⟩)
theorem qGT (W:World):GlOk maps (g0 W) W:=⟨fun n x h=>(by cases h),fun n hn=>absurd hn (by simp [maps])⟩
theorem contract (H:Type) (enc:TypeId × Value→H) (w0:World) (base:Nat) (args:Array Value) (ds gs:List (DataW H)) (before:List MemPlace)
  (hval:∀(j:Nat) t v,Tryz.f4.params[j]?=some t→args[j]?=some v→Value.okWide Tryz.prog w0 .any base t v)
  (hW:DataW.Whole enc Tryz.prog Tryz.f4.params.toList Rows.riscLimitsSpec.vars false w0 args.toList ds gs before) :
  Calls Tryz.prog 4 args w0 fun e W'=>∃v,e=.returned v∧Rows.riscLimitsSpec.post enc Tryz.prog Tryz.f4 false true false false w0 args v W':=by
 have hW':=hW
 obtain ⟨p,q,hA,hV,_⟩:=hW
 have hs:Rows.riscLimitsSpec.fn H ds={results:=[.lit (.bool true)],args:=ds}:=by
  have hA:DataW.TrodAll enc Tryz.prog w0 0 (fun _=>true) true Tryz.f4.params.toList args.toList ds p:=hA
  rw [Tryz.params4] at hA
  obtain ⟨v0,vs0,d0,ds0,p0,q0,_,rfl,_,_,r0⟩:=trodAll_cons hA
  obtain ⟨v1,vs1,d1,ds1,p1,q1,_,rfl,_,_,r1⟩:=trodAll_cons r0
  obtain ⟨_,rfl,_⟩:=trodAll_nil r1
  rfl
 refine qqk (M:=maps) (pg:=W.pgL) (i:=4) (ts:=[5]) (tb:=4) (b:=base) (r:=.any) (qGT _) (by kernel_rfl) qG7 qG0 qAK (by kernel_rfl) (by decide)
  (by kernel_rfl) (by rw [Tryz.params4];decide) qA5 hval rfl hW' hs (by kernel_rfl) Tryz.underlying4 (by kernel_rfl) (by rw [Tryz.params4];decide +kernel) ?_
 intro xs hxs _
 rw [Tryz.params4] at hxs
 cases hxs with
 | cons h0 hxs=>
  cases hxs with
  | cons h1 hxs=>
   cases hxs
   obtain ⟨a,rfl,ha⟩:=quG Tryz.underlying5 h0
   obtain ⟨b,rfl,hb⟩:=quG Tryz.underlying5 h1
   simp [Lit.wf,IntKind.min,IntKind.max,IntKind.bits,IntKind.signed] at ha hb
   obtain ⟨a,rfl⟩:=Int.eq_ofNat_of_zero_le ha.1
   obtain ⟨b,rfl⟩:=Int.eq_ofNat_of_zero_le hb.1
   obtain ⟨lo,hr⟩:=qAZ (n:=a) (w:=b)
   obtain ⟨n,hn⟩:=zL.1 hr
   exact ⟨n,_,hn,rfl,rfl⟩
theorem lifted (os:Os) (started:os.Started) (H:Type) (enc:TypeId × Value→H) :
  ReturnsInHanded {} Tryz.checked os 4 .any (Rows.riscLimitsSpec.pre6 enc Tryz.prog Tryz.f4 Rows.riscLimitsRow.domain false) (Rows.riscLimitsSpec.post enc Tryz.prog Tryz.f4 false true false false):=by
 refine returnsInHanded_of_change (C:=Tryz.checked) own started (by kernel_rfl) Tryz.func4
  (ChangeSpec.witness6 (C:=Tryz.checked) false ⟨#[],#[.int .u8 0,.int .u8 0],[]⟩ 8 (by kernel_rfl) (by kernel_rfl) (by kernel_rfl) (by kernel_rfl)) ?_
 intro W base args ds gs before hval hW _ _
 exact contract H enc W base args ds gs before hval hW
theorem jf1:laidOutB Tryz.prog=true:=by kernel_rfl
theorem jf2:mapsRowed Tryz.prog=true:=by kernel_rfl
theorem jf3:(Rows.riscLimitsRow.inPlace == Tryz.prog.inPlace 4)=true:=by kernel_rfl
theorem jf4:(Rows.riscLimitsRow.unfollowed == Tryz.prog.unfollowed 4)=true:=by kernel_rfl
theorem jf5:(Rows.riscLimitsRow.recurses == Tryz.prog.recurses 4)=true:=by kernel_rfl
theorem jf6:(Rows.riscLimitsRow.named == Tryz.prog.varsNamed 4)=true:=by kernel_rfl
theorem jf7:(Rows.riscLimitsRow.plainKeys == Tryz.prog.plainKeys)=true:=by kernel_rfl
theorem jf8:Tryz.prog.stopsHeard=true:=by kernel_rfl
theorem jf9:Tryz.prog.mayEnter=true:=by kernel_rfl
theorem qHi:(Rows.riscLimitsRow.lifted == Tryz.prog.liftsFinal)=true:=by kernel_rfl
theorem qG1:(Tryz.prog.make == some Rows.riscLimitsRow.make)=true:=by kernel_rfl
theorem closed:joinedFacts Tryz.prog 4 Tryz.f4 (OpenSpec.ofChange Rows.riscLimitsSpec).bare Rows.riscLimitsRow=true:=by
 simp only [joinedFacts,Bool.and_eq_true]
 repeat' (apply And.intro)
 all_goals first|(with_reducible exact jf1)|(with_reducible exact jf2)|(with_reducible exact jf3)|(with_reducible exact jf4)|(with_reducible exact jf5)|(with_reducible exact jf6)|(with_reducible exact jf7)|(with_reducible exact jf8)|(with_reducible exact jf9)|(with_reducible exact qHi)|(with_reducible exact qG1)|kernel_rfl
theorem riscLimits_holds:Rows.RiscLimitsSaid:=
 OpenClaim.holds_of_wide 4 Tryz.f4 rfl rfl rfl rfl rfl rfl rfl ⟨rfl,rfl,rfl,rfl,rfl⟩ rfl rfl rfl rfl rfl (by kernel_rfl) Tryz.func4 closed
  (of_decide_eq_true (by kernel_rfl)) (by unfold Func.isWrapper;first|(rw [if_pos (by decide +kernel)];kernel_rfl)|(rw [if_neg (by decide +kernel)];exact ⟨rfl,rfl⟩))
  (fun os started H enc _=>lifted os started H enc)
end Go.Proofs.YtfgmbblhhmeefaaGreat
