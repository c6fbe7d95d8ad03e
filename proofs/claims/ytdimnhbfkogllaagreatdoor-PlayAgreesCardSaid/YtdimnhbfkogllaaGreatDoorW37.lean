/-
  PlayAgrees, part 37.
-/
import Derived.Test.YtdimnhbfkogllaaGreatDoorW8
import Derived.Test.YtdimnhbfkogllaaGreatDoorW15
import Derived.Test.YtdimnhbfkogllaaGreatDoorW28
import Derived.Test.YtdimnhbfkogllaaGreatDoorW36
set_option linter.unusedSimpArgs false
set_option linter.unusedVariables false
/- PlayAgrees: when two results agree. -/
namespace Go.Proofs.YtdimnhbfkogllaaGreatDoor
open Go.ChangeShapes Go.WideShapes Go.ChangeAt Go.RowKit W
set_option maxRecDepth 100000
theorem qrR {g:Gh} {w:World} {vs:List V} {H:List W.Obj} {r:Cr} (h:ixX vs H=some r) {argv:List Value} (ha:ArgsRep maps g w 0 vs argv) (hH:RelH maps g w H):qxR Tryz.prog 623 argv.toArray w (qI maps g w r):=
 qH1 Tryz.func623 (by decide +kernel) (by kernel_rfl) (by kernel_rfl) (by kernel_rfl) h ha hH
theorem qFq {q:Pg} (hs:∀n,qs Tryz.prog maps (zD q n)) {f:Nat} {vs:List V} {H:List W.Obj} {r:Cr} (h:qc q f vs H=some r) {f':FuncId} (hl:W.look maps.fm f'=some f) {g:Gh} {w:World} {argv:List Value} (ha:ArgsRep maps g w 0 vs argv) (hH:RelH maps g w H):qxR Tryz.prog f' argv.toArray w (qI maps g w r):=by
 obtain ⟨n,hn⟩:=jN.1 h
 exact hs n _ _ _ _ hn _ hl g w argv ha hH
theorem tc:qjT Tryz.prog maps W.pg:=qsp qC8 (fun i fn hf=>by
 unfold W.pg W.prog at hf
 simp only [Bool.cond_eq_ite] at hf
 repeat' split at hf
 all_goals first|(cases hf;done)|exact hf) fun _ _ h=>zz h
theorem sim:qs Tryz.prog maps W.pg.ext:=by
 intro i vs H r h f' hl g w argv ha hH
 have e:f'=i:=zz hl
 subst e
 unfold W.pg at h
 simp only [Bool.cond_eq_ite] at h
 split at h
 ·rename_i hb
  have e2:f'=623:=by simpa using hb
  subst e2
  exact qrR h ha hH
 ·cases h
theorem s (n:Nat):qs Tryz.prog maps (zD W.pg n):=qst (by kernel_rfl) tc qpa (fun _ _ h=>zz h) sim qsi n
theorem tcE:qjT Tryz.prog maps W.pgE:=qsp qC8 (fun i fn hf=>by
 unfold W.pgE W.pg W.prog at hf
 simp only [Bool.cond_eq_ite] at hf
 repeat' split at hf
 all_goals first|(cases hf;done)|exact hf) fun _ _ h=>zz h
theorem qS2:qs Tryz.prog maps W.pgE.ext:=by
 intro i vs H r h f' hl g w argv ha hH
 have e:f'=i:=zz hl
 subst e
 unfold W.pgE at h
 simp only [Bool.cond_eq_ite] at h
 split at h
 ·rename_i hb
  have e2:f'=623:=by simpa using hb
  subst e2
  exact qrR h ha hH
 ·exact qlO (fun e he=>⟨W.pg,s,qGM e he⟩) _ _ _ _ h _ hl g w argv ha hH
theorem sE (n:Nat):qs Tryz.prog maps (zD W.pgE n):=qst (by kernel_rfl) tcE qpa (fun _ _ h=>zz h) qS2 qCy n
theorem tc1:qjT Tryz.prog maps W.pg1:=qsp qC8 (fun i fn hf=>by
 unfold W.pg1 W.pg W.prog at hf
 simp only [Bool.cond_eq_ite] at hf
 repeat' split at hf
 all_goals first|(cases hf;done)|exact hf) fun _ _ h=>zz h
theorem qSX:qs Tryz.prog maps W.pg1.ext:=by
 intro i vs H r h f' hl g w argv ha hH
 have e:f'=i:=zz hl
 subst e
 unfold W.pg1 at h
 simp only [Bool.cond_eq_ite] at h
 split at h
 ·rename_i hb
  have e2:f'=623:=by simpa using hb
  subst e2
  exact qrR h ha hH
 ·exact qlO (fun e he=>⟨W.pg,s,qHN e he⟩) _ _ _ _ h _ hl g w argv ha hH
theorem s1 (n:Nat):qs Tryz.prog maps (zD W.pg1 n):=qst (by kernel_rfl) tc1 qpa (fun _ _ h=>zz h) qSX qnr n
theorem tcG:qjT Tryz.prog maps W.pgG:=qsp qC8 (fun i fn hf=>by
 unfold W.pgG W.pg W.prog at hf
 simp only [Bool.cond_eq_ite] at hf
 repeat' split at hf
 all_goals first|(cases hf;done)|exact hf) fun _ _ h=>zz h
theorem qS1:qs Tryz.prog maps W.pgG.ext:=by
 intro i vs H r h f' hl g w argv ha hH
 have e:f'=i:=zz hl
 subst e
 unfold W.pgG at h
 simp only [Bool.cond_eq_ite] at h
 split at h
 ·rename_i hb
  have e2:f'=623:=by simpa using hb
  subst e2
  exact qrR h ha hH
 ·split at h
  ·rename_i hb
   have e2:f'=25:=by simpa using hb
   subst e2
   exact qFq s (qzA h) hl ha hH
  ·split at h
   ·rename_i hb
    have e2:f'=26:=by simpa using hb
    subst e2
    exact qFq sE (qwt h) hl ha hH
   ·cases h
theorem sG (n:Nat):qs Tryz.prog maps (zD W.pgG n):=qst (by kernel_rfl) tcG qpa (fun _ _ h=>zz h) qS1 qCs n
theorem tc2:qjT Tryz.prog maps W.pg2:=qsp qC8 (fun i fn hf=>by
 unfold W.pg2 W.pg W.prog at hf
 simp only [Bool.cond_eq_ite] at hf
 repeat' split at hf
 all_goals first|(cases hf;done)|exact hf) fun _ _ h=>zz h
theorem qSP:qs Tryz.prog maps W.pg2.ext:=by
 intro i vs H r h f' hl g w argv ha hH
 have e:f'=i:=zz hl
 subst e
 unfold W.pg2 at h
 simp only [Bool.cond_eq_ite] at h
 split at h
 ·rename_i hb
  have e2:f'=623:=by simpa using hb
  subst e2
  exact qrR h ha hH
 ·exact qlO (fun e he=>(qGA e he).elim (fun h=>⟨_,s,h⟩) fun h=>h.elim (fun h=>⟨_,s1,h⟩) fun h=>⟨_,sG,h⟩) _ _ _ _ h _ hl g w argv ha hH
theorem s2 (n:Nat):qs Tryz.prog maps (zD W.pg2 n):=qst (by kernel_rfl) tc2 qpa (fun _ _ h=>zz h) qSP qxp n
theorem tc3:qjT Tryz.prog maps W.pg3:=qsp qC8 (fun i fn hf=>by
 unfold W.pg3 W.pg W.prog at hf
 simp only [Bool.cond_eq_ite] at hf
 repeat' split at hf
 all_goals first|(cases hf;done)|exact hf) fun _ _ h=>zz h
theorem qSd:qs Tryz.prog maps W.pg3.ext:=by
 intro i vs H r h f' hl g w argv ha hH
 have e:f'=i:=zz hl
 subst e
 unfold W.pg3 at h
 simp only [Bool.cond_eq_ite] at h
 split at h
 ·rename_i hb
  have e2:f'=623:=by simpa using hb
  subst e2
  exact qrR h ha hH
 ·exact qlO (fun e he=>(qHX e he).elim (fun h=>⟨_,s1,h⟩) fun h=>h.elim (fun h=>⟨_,sG,h⟩) fun h=>⟨_,s2,h⟩) _ _ _ _ h _ hl g w argv ha hH
theorem s3 (n:Nat):qs Tryz.prog maps (zD W.pg3 n):=qst (by kernel_rfl) tc3 qpa (fun _ _ h=>zz h) qSd qC1 n
theorem qSI:Tab Tryz.prog maps W.pgL:=⟨fun f' i hl fn' hf=>by
 obtain rfl:f'=i:=zz hl
 have h:=qsx (l:=plL) hf
 simp only [plL,List.mem_cons,Prod.mk.injEq,List.not_mem_nil,or_false] at h
 rcases h with ⟨rfl,rfl⟩|⟨rfl,rfl⟩|⟨rfl,rfl⟩|⟨rfl,rfl⟩|⟨rfl,rfl⟩|⟨rfl,rfl⟩|⟨rfl,rfl⟩|⟨rfl,rfl⟩
 ·exact ⟨_,_,_,Tryz.func3,by decide +kernel,qSb⟩
 ·exact ⟨_,_,_,Tryz.func6,by decide +kernel,qPK⟩
 ·exact ⟨_,_,_,Tryz.func7,by decide +kernel,qP6⟩
 ·exact ⟨_,_,_,Tryz.func8,by decide +kernel,qRI⟩
 ·exact ⟨_,_,_,Tryz.func15,by decide +kernel,qJg⟩
 ·exact ⟨_,_,_,Tryz.func16,by decide +kernel,qJu⟩
 ·exact ⟨_,_,_,Tryz.func17,by decide +kernel,qJt⟩
 ·exact ⟨_,_,_,Tryz.func18,by decide +kernel,qJj⟩,qpa⟩
theorem qSG:qs Tryz.prog maps W.pgL.ext:=qlO fun e he=>by
 simp only [qQ8,List.mem_singleton] at he
 subst he
 exact ⟨_,s3,qIq⟩
def qII:D->List Int
 | .agg l=>l.map fun d=>match d with | .i _ n=>n|_=>0
 | _=>[]
theorem qqd {α:Type} {n:Nat} {x:α}:∀{l:List (Nat × α)},W.look l n=some x->(n,x) ∈ l
 | [],h=>by cases h
 | (m,y)::l,h=>by
  simp only [W.look,Bool.cond_eq_ite] at h
  split at h
  ·rename_i hb
   cases h
   have:=Nat.eq_of_beq_eq_true hb
   subst this
   exact .head _
  ·exact .tail _ (qqd h)
theorem qx2 {W:World} (hL:laidMetH Tryz.prog Rows.playAgreesRow.laid W) {name:String} {k:IntKind} {d:D} {g:Nat} {t e:TypeId} {n:Nat}
  (hg:Tryz.prog.globalNamed name=some g) (hty:(Tryz.prog.globals[g]?).map (·.type)=some t) (ht:Tryz.prog.underlying t=some (.array n e)) (he:Tryz.prog.underlying e=some (.int k)) (hce:Tryz.prog.cellsOf e=1) (hct:Tryz.prog.cellsOf t=n)
  (hm:(name,Go.Lib.tabData k (qII d)) ∈ Rows.playAgreesRow.laid) (hd:d=.agg ((qII d).map (D.i k))) (h0:(qII d).isEmpty=false) :
  ∃name k zs,Tryz.prog.globalNamed name=some g/\d=.agg (zs.map (D.i k))/\zs≠[]/\Go.Lib.TabIs Tryz.prog W name k zs:=by
 obtain ⟨ps,hv,_⟩:=(show laidMet Tryz.prog Rows.playAgreesRow.laid W from hL)
 exact ⟨name,k,qII d,hg,hd,(fun h=>by rw [h] at h0;cases h0),qwH hg hty ht he hce hct hv hm⟩
theorem qSE {W:World} (hL:laidMetH Tryz.prog Rows.playAgreesRow.laid W):GlOk maps (g0 W) W:=by
 refine qDp (P:=Tryz.prog) ?_ fun n x hn=>?_
 ·intro n hn;exact absurd hn (by simp [maps])
 have hm:=qqd hn
 simp only [maps,List.mem_cons,Prod.mk.injEq,List.not_mem_nil,or_false] at hm
 rcases hm with ⟨rfl,rfl⟩|⟨rfl,rfl⟩|⟨rfl,rfl⟩|⟨rfl,rfl⟩
 ·exact qx2 hL (name:= "strings.asciiSpace") (k:=.u8) (d:=glD 0) (by kernel_rfl) (by kernel_rfl) Tryz.underlying456 Tryz.underlying5 (by kernel_rfl) (by kernel_rfl) (.head _) rfl rfl
 ·exact qx2 hL (name:= "internal/strconv.uint64pow10") (k:=.u64) (d:=glD 5) (by kernel_rfl) (by kernel_rfl) Tryz.underlying582 Tryz.underlying227 (by kernel_rfl) (by kernel_rfl) (.tail _ (.tail _ (.tail _ (.tail _ (.head _))))) rfl rfl
 ·exact qx2 hL (name:= "math/bits.deBruijn32tab") (k:=.u8) (d:=glD 13) (by kernel_rfl) (by kernel_rfl) Tryz.underlying594 Tryz.underlying5 (by kernel_rfl) (by kernel_rfl) (.tail _ (.tail _ (.tail _ (.tail _ (.tail _ (.head _)))))) rfl rfl
 ·exact qx2 hL (name:= "math/bits.deBruijn64tab") (k:=.u8) (d:=glD 14) (by kernel_rfl) (by kernel_rfl) Tryz.underlying595 Tryz.underlying5 (by kernel_rfl) (by kernel_rfl) (.tail _ (.tail _ (.tail _ (.tail _ (.tail _ (.tail _ (.head _))))))) rfl rfl
theorem qHz {y:D} (h:Arg Tryz.prog 5 y):∃p:{n:Nat // n<256},y=e8 p.1:=by
 obtain ⟨a,rfl,ha⟩:=qCz Tryz.underlying5 h
 simp [Lit.wf,IntKind.min,IntKind.max,IntKind.bits,IntKind.signed] at ha
 exact ⟨⟨a.toNat,by omega⟩,by simp only [e8];rw [Int.toNat_of_nonneg (by omega)]⟩
theorem qEy {x:D} (h:Arg Tryz.prog 22 x):∃s,Bt x s:=by
 obtain ⟨L,hL⟩:=qKb (f:=fun p:{n:Nat // n<256}=>e8 p.1) Tryz.underlying22 h (fun y hy=>qHz hy)
 refine ⟨L.map (·.1),?_,fun c hc=>?_⟩
 ·cases hL with
  | nil=>exact .nil
  | sl=>
   rw [show L.map (fun p:{n:Nat // n<256}=>e8 p.1)=(L.map (·.1)).map e8 by rw [List.map_map];rfl]
   exact .sl _
 ·obtain ⟨p,_,rfl⟩:=List.mem_map.1 hc
  exact p.2
theorem qCg {y:D} (h:Arg Tryz.prog 24 y):∃X s e r,y=.agg [X,.i .i64 e,.i .i64 r]/\Bt X s:=by
 obtain ⟨n,xs,ht,rfl⟩:=h
 cases n with
 | zero=>exact ht.elim
 | succ n=>
  simp only [Ty,Tryz.underlying24] at ht
  obtain ⟨yss,rfl,hl,hq⟩:=ht
  match yss,hl,hq with
  | [q0,q1,q2],_,hq=>
   have h0:=hq 0 _ q0 rfl rfl
   have h1:=hq 1 _ q1 rfl rfl
   have h2:=hq 2 _ q2 rfl rfl
   obtain ⟨s,hs⟩:=qEy ⟨n,q0,h0,rfl⟩
   cases n with
   | zero=>exact h0.elim
   | succ n=>
    simp only [Ty,Tryz.underlying3,Tryz.underlying22] at h0 h1 h2
    obtain ⟨a,rfl,_⟩:=h1
    obtain ⟨b,rfl,_⟩:=h2
    have e1:qan Tryz.prog 24=true:=by simp [qan,Tryz.underlying24]
    have e2:qan Tryz.prog 22=false:=by simp [qan,Tryz.underlying22]
    rw [e1]
    rw [e2] at hs
    rcases h0 with rfl|⟨zss,rfl,_,hz⟩
    ·exact ⟨_,s,a,b,rfl,hs⟩
    ·exact ⟨_,s,a,b,rfl,hs⟩
theorem contract (H:Type) (enc:TypeId × Value->H) (w0:World) (base:Nat) (args:Array Value) (ds gs:List (DataW H)) (before:List MemPlace)
  (hval:∀(j:Nat) t v,Tryz.f3.params[j]?=some t->args[j]?=some v->Value.okWide Tryz.prog w0 .any base t v)
  (hW:DataW.Whole enc Tryz.prog Tryz.f3.params.toList Rows.playAgreesSpec.vars false w0 args.toList ds gs before) (hL:laidMetH Tryz.prog Rows.playAgreesRow.laid w0) :
  Calls Tryz.prog 3 args w0 fun e W'=>∃v,e=.returned v/\Rows.playAgreesSpec.post enc Tryz.prog Tryz.f3 false true false false w0 args v W':=by
 have hW':=hW
 obtain ⟨p,q,hA,hV,_⟩:=hW
 have hs:Rows.playAgreesSpec.fn H ds={results:=[.lit (.bool true)],args:=ds}:=by
  have hA:DataW.TrodAll enc Tryz.prog w0 0 (fun _=>true) true Tryz.f3.params.toList args.toList ds p:=hA
  rw [Tryz.params3] at hA
  obtain ⟨v0,vs0,d0,ds0,p0,q0,_,rfl,_,_,r0⟩:=trodAll_cons hA
  obtain ⟨v1,vs1,d1,ds1,p1,q1,_,rfl,_,_,r1⟩:=trodAll_cons r0
  obtain ⟨v2,vs2,d2,ds2,p2,q2,_,rfl,_,_,r2⟩:=trodAll_cons r1
  obtain ⟨v3,vs3,d3,ds3,p3,q3,_,rfl,_,_,r3⟩:=trodAll_cons r2
  obtain ⟨_,rfl,_⟩:=trodAll_nil r3
  rfl
 refine qyB (M:=maps) (pg:=W.pgL) (i:=3) (ts:=[24,22,5,3,4]) (tb:=4) (b:=base) (r:=.any) (qSE hL) (by kernel_rfl) qSI qSG qIp (by kernel_rfl) (by decide)
  (by kernel_rfl) (by rw [Tryz.params3];decide) qIf hval rfl hW' hs (by kernel_rfl) Tryz.underlying4 jf1 (by rw [Tryz.params3];decide +kernel) ?_
 intro xs hxs _
 rw [Tryz.params3] at hxs
 cases hxs with
 | cons h0 hxs=>
  cases hxs with
  | cons h1 hxs=>
   cases hxs with
   | cons h2 hxs=>
    cases hxs with
    | cons h3 hxs=>
     cases hxs
     obtain ⟨X,s,e1,r1,rfl,hX⟩:=qCg h0
     obtain ⟨Y,t,e2,r2,rfl,hY⟩:=qCg h1
     obtain ⟨c,rfl,hc⟩:=qCz Tryz.underlying5 h2
     obtain ⟨q,rfl⟩:=qF1 Tryz.underlying4 h3
     simp [Lit.wf,IntKind.min,IntKind.max,IntKind.bits,IntKind.signed] at hc
     obtain ⟨c,rfl⟩:=Int.eq_ofNat_of_zero_le hc.1
     obtain ⟨lo,hr⟩:=qA3 hX hY (e1:=e1) (e2:=e2) (r1:=r1) (r2:=r2) (c:=c) (by omega) (q:=q)
     obtain ⟨n,hn⟩:=jN.1 hr
     exact ⟨n,_,hn,rfl,rfl⟩
noncomputable def qsv (os:Os):World:=World.laidAll Tryz.prog os Rows.playAgreesRow.laid
theorem qHt (os:Os):laidMetH Tryz.prog Rows.playAgreesRow.laid ((qsv os).forCall (fun _ _=>0) ⟨#[],#[.agg #[.slice none 0 0,.int .i64 0,.int .i64 0],.agg #[.slice none 0 0,.int .i64 0,.int .i64 0],.int .u8 0,.bool false],[]⟩).memory:=
 laidMet_laidAll (P:=Tryz.prog) (os:=os) (laid:=Rows.playAgreesRow.laid) #[.agg #[.slice none 0 0,.int .i64 0,.int .i64 0],.agg #[.slice none 0 0,.int .i64 0,.int .i64 0],.int .u8 0,.bool false] (by kernel_rfl) (by kernel_rfl)
theorem reads (os:Os) {H:Type} (enc:TypeId × Value->H):∃places,DataW.whole enc Tryz.prog ((qsv os).forCall (fun _ _=>0) ⟨#[],#[.agg #[.slice none 0 0,.int .i64 0,.int .i64 0],.agg #[.slice none 0 0,.int .i64 0,.int .i64 0],.int .u8 0,.bool false],[]⟩).memory Tryz.f3.params.toList Rows.playAgreesSpec.vars false #[Value.agg #[.slice none 0 0,.int .i64 0,.int .i64 0],.agg #[.slice none 0 0,.int .i64 0,.int .i64 0],.int .u8 0,.bool false].toList 8=some ([.agg [.nil,.lit (.int .i64 0),.lit (.int .i64 0)],.agg [.nil,.lit (.int .i64 0),.lit (.int .i64 0)],.lit (.int .u8 0),.lit (.bool false)],[],places):=
 ⟨[],by kernel_rfl⟩
theorem lifted (os:Os) (started:os.Started) (H:Type) (enc:TypeId × Value->H) (F:Stop.Interp) :
  ReturnsInHanded {} Tryz.checked os 3 .any ((OpenSpec.ofChange Rows.playAgreesSpec).preRow enc Tryz.prog Tryz.f3 Rows.playAgreesRow.domain false Rows.playAgreesRow.laid) (((OpenSpec.ofChange Rows.playAgreesSpec).at F).post enc Tryz.prog Tryz.f3 false true false false):=by
 obtain ⟨places,hx⟩:=reads os enc
 refine returnsInHanded_of_row (C:=Tryz.checked) (s:=OpenSpec.ofChange Rows.playAgreesSpec) own started (by kernel_rfl) Tryz.func3
  (witness_row_atRef (enc:=enc) (C:=Tryz.checked) false (qsv os) #[.agg #[.slice none 0 0,.int .i64 0,.int .i64 0],.agg #[.slice none 0 0,.int .i64 0,.int .i64 0],.int .u8 0,.bool false] (World.laidAll_os _ _ _) (by kernel_rfl) (by kernel_rfl) (by kernel_rfl)
   (OpenSpec.preRow_of_cond 8 hx (by kernel_rfl) (fun k hk=>by cases hk) (by kernel_rfl) (qHt os))) ?_
 intro W base args ds gs before hval hW _ _ _ hL _ _
 exact contract H enc W base args ds gs before hval hW hL
theorem said:Rows.PlayAgreesSaid:=
 OpenClaim.holds_of_cond 3 Tryz.f3 rfl rfl rfl rfl rfl rfl rfl ⟨rfl,rfl,rfl,rfl,rfl⟩ rfl rfl rfl rfl rfl (by kernel_rfl) Tryz.func3 closed
  (of_decide_eq_true (by kernel_rfl)) (by unfold Func.isWrapper;first|(rw [if_pos (by decide +kernel)];kernel_rfl)|(rw [if_neg (by decide +kernel)];exact ⟨rfl,rfl⟩))
  (fun os started H enc _ F=>by rw [OpenClaim.pre_eq_preRow];exact lifted os started H enc F)
end Go.Proofs.YtdimnhbfkogllaaGreatDoor
