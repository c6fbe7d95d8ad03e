/-
  PlayEchoes, part 40.
-/
import Derived.Test.YtdimnhbfkogllaaGreatDoorX8
import Derived.Test.YtdimnhbfkogllaaGreatDoorX15
import Derived.Test.YtdimnhbfkogllaaGreatDoorX28
import Derived.Test.YtdimnhbfkogllaaGreatDoorX38
import Derived.Test.YtdimnhbfkogllaaGreatDoorX39
set_option linter.unusedSimpArgs false
set_option linter.unusedVariables false
/- PlayEchoes: what was written goes into a port, as far as there is room. -/
namespace Go.Proofs.YtdimnhbfkogllaaGreatDoor
open Go.ChangeShapes Go.WideShapes Go.ChangeAt Go.RowKit W
set_option maxRecDepth 100000
theorem qry {g:Gh} {w:World} {vs:List V} {H:List W.Obj} {r:Cr} (h:ixX vs H=some r) {argv:List Value} (ha:ArgsRep maps g w 0 vs argv) (hH:RelH maps g w H):W.qsp Tryz.prog 623 argv.toArray w (qu maps g w r):=
 qHy Tryz.func623 (by decide +kernel) (by kernel_rfl) (by kernel_rfl) (by kernel_rfl) h ha hH
theorem qF3 {q:Pg} (hs:∀n,qp Tryz.prog maps (zz q n)) {f:Nat} {vs:List V} {H:List W.Obj} {r:Cr} (h:qf q f vs H=some r) {f':FuncId} (hl:W.look maps.fm f'=some f) {g:Gh} {w:World} {argv:List Value} (ha:ArgsRep maps g w 0 vs argv) (hH:RelH maps g w H):W.qsp Tryz.prog f' argv.toArray w (qu maps g w r):=by
 obtain ⟨n,hn⟩:=jD.1 h
 exact hs n _ _ _ _ hn _ hl g w argv ha hH
theorem tc:qjM Tryz.prog maps W.pg:=qrN qD4 (fun i fn hf=>by
 unfold W.pg W.prog at hf
 simp only [Bool.cond_eq_ite] at hf
 repeat' split at hf
 all_goals first|(cases hf;done)|exact hf) fun _ _ h=>zk h
theorem sim:qp Tryz.prog maps W.pg.ext:=by
 intro i vs H r h f' hl g w argv ha hH
 have e:f'=i:=zk hl
 subst e
 unfold W.pg at h
 simp only [Bool.cond_eq_ite] at h
 split at h
 ·rename_i hb
  have e2:f'=623:=by simpa using hb
  subst e2
  exact qry h ha hH
 ·cases h
theorem s (n:Nat):qp Tryz.prog maps (zz W.pg n):=qsr (by kernel_rfl) tc qo2 (fun _ _ h=>zk h) sim qsc n
theorem tcE:qjM Tryz.prog maps W.pgE:=qrN qD4 (fun i fn hf=>by
 unfold W.pgE W.pg W.prog at hf
 simp only [Bool.cond_eq_ite] at hf
 repeat' split at hf
 all_goals first|(cases hf;done)|exact hf) fun _ _ h=>zk h
theorem qSG:qp Tryz.prog maps W.pgE.ext:=by
 intro i vs H r h f' hl g w argv ha hH
 have e:f'=i:=zk hl
 subst e
 unfold W.pgE at h
 simp only [Bool.cond_eq_ite] at h
 split at h
 ·rename_i hb
  have e2:f'=623:=by simpa using hb
  subst e2
  exact qry h ha hH
 ·exact qm5 (fun e he=>⟨W.pg,s,qFY e he⟩) _ _ _ _ h _ hl g w argv ha hH
theorem sE (n:Nat):qp Tryz.prog maps (zz W.pgE n):=qsr (by kernel_rfl) tcE qo2 (fun _ _ h=>zk h) qSG qCt n
theorem tc1:qjM Tryz.prog maps W.pg1:=qrN qD4 (fun i fn hf=>by
 unfold W.pg1 W.pg W.prog at hf
 simp only [Bool.cond_eq_ite] at hf
 repeat' split at hf
 all_goals first|(cases hf;done)|exact hf) fun _ _ h=>zk h
theorem qR3:qp Tryz.prog maps W.pg1.ext:=by
 intro i vs H r h f' hl g w argv ha hH
 have e:f'=i:=zk hl
 subst e
 unfold W.pg1 at h
 simp only [Bool.cond_eq_ite] at h
 split at h
 ·rename_i hb
  have e2:f'=623:=by simpa using hb
  subst e2
  exact qry h ha hH
 ·exact qm5 (fun e he=>⟨W.pg,s,qHN e he⟩) _ _ _ _ h _ hl g w argv ha hH
theorem s1 (n:Nat):qp Tryz.prog maps (zz W.pg1 n):=qsr (by kernel_rfl) tc1 qo2 (fun _ _ h=>zk h) qR3 qnx n
theorem tcG:qjM Tryz.prog maps W.pgG:=qrN qD4 (fun i fn hf=>by
 unfold W.pgG W.pg W.prog at hf
 simp only [Bool.cond_eq_ite] at hf
 repeat' split at hf
 all_goals first|(cases hf;done)|exact hf) fun _ _ h=>zk h
theorem qRX:qp Tryz.prog maps W.pgG.ext:=by
 intro i vs H r h f' hl g w argv ha hH
 have e:f'=i:=zk hl
 subst e
 unfold W.pgG at h
 simp only [Bool.cond_eq_ite] at h
 split at h
 ·rename_i hb
  have e2:f'=623:=by simpa using hb
  subst e2
  exact qry h ha hH
 ·split at h
  ·rename_i hb
   have e2:f'=25:=by simpa using hb
   subst e2
   exact qF3 s (qyT h) hl ha hH
  ·split at h
   ·rename_i hb
    have e2:f'=26:=by simpa using hb
    subst e2
    exact qF3 sE (qwT h) hl ha hH
   ·cases h
theorem sG (n:Nat):qp Tryz.prog maps (zz W.pgG n):=qsr (by kernel_rfl) tcG qo2 (fun _ _ h=>zk h) qRX qCR n
theorem tc2:qjM Tryz.prog maps W.pg2:=qrN qD4 (fun i fn hf=>by
 unfold W.pg2 W.pg W.prog at hf
 simp only [Bool.cond_eq_ite] at hf
 repeat' split at hf
 all_goals first|(cases hf;done)|exact hf) fun _ _ h=>zk h
theorem qSx:qp Tryz.prog maps W.pg2.ext:=by
 intro i vs H r h f' hl g w argv ha hH
 have e:f'=i:=zk hl
 subst e
 unfold W.pg2 at h
 simp only [Bool.cond_eq_ite] at h
 split at h
 ·rename_i hb
  have e2:f'=623:=by simpa using hb
  subst e2
  exact qry h ha hH
 ·exact qm5 (fun e he=>(qEU e he).elim (fun h=>⟨_,s,h⟩) fun h=>h.elim (fun h=>⟨_,s1,h⟩) fun h=>⟨_,sG,h⟩) _ _ _ _ h _ hl g w argv ha hH
theorem s2 (n:Nat):qp Tryz.prog maps (zz W.pg2 n):=qsr (by kernel_rfl) tc2 qo2 (fun _ _ h=>zk h) qSx qxn n
theorem tc3:qjM Tryz.prog maps W.pg3:=qrN qD4 (fun i fn hf=>by
 unfold W.pg3 W.pg W.prog at hf
 simp only [Bool.cond_eq_ite] at hf
 repeat' split at hf
 all_goals first|(cases hf;done)|exact hf) fun _ _ h=>zk h
theorem qRR:qp Tryz.prog maps W.pg3.ext:=by
 intro i vs H r h f' hl g w argv ha hH
 have e:f'=i:=zk hl
 subst e
 unfold W.pg3 at h
 simp only [Bool.cond_eq_ite] at h
 split at h
 ·rename_i hb
  have e2:f'=623:=by simpa using hb
  subst e2
  exact qry h ha hH
 ·exact qm5 (fun e he=>(qH9 e he).elim (fun h=>⟨_,s1,h⟩) fun h=>h.elim (fun h=>⟨_,sG,h⟩) fun h=>⟨_,s2,h⟩) _ _ _ _ h _ hl g w argv ha hH
theorem s3 (n:Nat):qp Tryz.prog maps (zz W.pg3 n):=qsr (by kernel_rfl) tc3 qo2 (fun _ _ h=>zk h) qRR qCc n
theorem qSD:Tab Tryz.prog maps W.pgL:=⟨fun f' i hl fn' hf=>by
 obtain rfl:f'=i:=zk hl
 have h:=qrp (l:=plL) hf
 simp only [plL,List.mem_cons,Prod.mk.injEq,List.not_mem_nil,or_false] at h
 rcases h with ⟨rfl,rfl⟩|⟨rfl,rfl⟩|⟨rfl,rfl⟩
 ·exact ⟨_,_,_,Tryz.func4,by decide +kernel,qRf⟩
 ·exact ⟨_,_,_,Tryz.func6,by decide +kernel,qRb⟩
 ·exact ⟨_,_,_,Tryz.func10,by decide +kernel,qJo⟩,qo2⟩
theorem qSy:qp Tryz.prog maps W.pgL.ext:=by
 intro i vs H r h f' hl g w argv ha hH
 have e:f'=i:=zk hl
 subst e
 unfold W.pgL at h
 simp only [Bool.cond_eq_ite] at h
 split at h
 ·exact qm5 (fun e he=>by
   simp only [qQ5,List.mem_singleton] at he
   subst he
   exact ⟨_,s3,qIy⟩) _ _ _ _ h _ hl g w argv ha hH
 ·exact qHp h ha hH
def qH6:D->List Int
 | .agg l=>l.map fun d=>match d with | .i _ n=>n|_=>0
 | _=>[]
theorem qqW {α:Type} {n:Nat} {x:α}:∀{l:List (Nat × α)},W.look l n=some x->(n,x) ∈ l
 | [],h=>by cases h
 | (m,y)::l,h=>by
  simp only [W.look,Bool.cond_eq_ite] at h
  split at h
  ·rename_i hb
   cases h
   have:=Nat.eq_of_beq_eq_true hb
   subst this
   exact .head _
  ·exact .tail _ (qqW h)
theorem qxI {W:World} (hL:laidMetH Tryz.prog Rows.playEchoesRow.laid W) {name:String} {k:IntKind} {d:D} {g:Nat} {t e:TypeId} {n:Nat}
  (hg:Tryz.prog.globalNamed name=some g) (hty:(Tryz.prog.globals[g]?).map (·.type)=some t) (ht:Tryz.prog.underlying t=some (.array n e)) (he:Tryz.prog.underlying e=some (.int k)) (hce:Tryz.prog.cellsOf e=1) (hct:Tryz.prog.cellsOf t=n)
  (hm:(name,Go.Lib.tabData k (qH6 d)) ∈ Rows.playEchoesRow.laid) (hd:d=.agg ((qH6 d).map (D.i k))) (h0:(qH6 d).isEmpty=false) :
  ∃name k zs,Tryz.prog.globalNamed name=some g/\d=.agg (zs.map (D.i k))/\zs≠[]/\Go.Lib.TabIs Tryz.prog W name k zs:=by
 obtain ⟨ps,hv,_⟩:=(show laidMet Tryz.prog Rows.playEchoesRow.laid W from hL)
 exact ⟨name,k,qH6 d,hg,hd,(fun h=>by rw [h] at h0;cases h0),qw8 hg hty ht he hce hct hv hm⟩
theorem qRT {W:World} (hL:laidMetH Tryz.prog Rows.playEchoesRow.laid W):GlOk maps (g0 W) W:=by
 refine qD7 (P:=Tryz.prog) ?_ fun n x hn=>?_
 ·intro n hn;exact absurd hn (by simp [maps])
 have hm:=qqW hn
 simp only [maps,List.mem_cons,Prod.mk.injEq,List.not_mem_nil,or_false] at hm
 rcases hm with ⟨rfl,rfl⟩|⟨rfl,rfl⟩|⟨rfl,rfl⟩|⟨rfl,rfl⟩
 ·exact qxI hL (name:= "strings.asciiSpace") (k:=.u8) (d:=glD 0) (by kernel_rfl) (by kernel_rfl) Tryz.underlying456 Tryz.underlying5 (by kernel_rfl) (by kernel_rfl) (.head _) rfl rfl
 ·exact qxI hL (name:= "internal/strconv.uint64pow10") (k:=.u64) (d:=glD 5) (by kernel_rfl) (by kernel_rfl) Tryz.underlying582 Tryz.underlying227 (by kernel_rfl) (by kernel_rfl) (.tail _ (.tail _ (.tail _ (.tail _ (.head _))))) rfl rfl
 ·exact qxI hL (name:= "math/bits.deBruijn32tab") (k:=.u8) (d:=glD 13) (by kernel_rfl) (by kernel_rfl) Tryz.underlying594 Tryz.underlying5 (by kernel_rfl) (by kernel_rfl) (.tail _ (.tail _ (.tail _ (.tail _ (.tail _ (.head _)))))) rfl rfl
 ·exact qxI hL (name:= "math/bits.deBruijn64tab") (k:=.u8) (d:=glD 14) (by kernel_rfl) (by kernel_rfl) Tryz.underlying595 Tryz.underlying5 (by kernel_rfl) (by kernel_rfl) (.tail _ (.tail _ (.tail _ (.tail _ (.tail _ (.tail _ (.head _))))))) rfl rfl
theorem qF8 {y:D} (h:Arg Tryz.prog 5 y):∃p:{n:Nat // n<256},y=e8 p.1:=by
 obtain ⟨a,rfl,ha⟩:=qCi Tryz.underlying5 h
 simp [Lit.wf,IntKind.min,IntKind.max,IntKind.bits,IntKind.signed] at ha
 exact ⟨⟨a.toNat,by omega⟩,by simp only [e8];rw [Int.toNat_of_nonneg (by omega)]⟩
theorem qDq {x:D} (h:Arg Tryz.prog 22 x):∃s,Bt x s:=by
 obtain ⟨L,hL⟩:=qOC (f:=fun p:{n:Nat // n<256}=>e8 p.1) Tryz.underlying22 h (fun y hy=>qF8 hy)
 refine ⟨L.map (·.1),?_,fun c hc=>?_⟩
 ·cases hL with
  | nil=>exact .nil
  | sl=>
   rw [show L.map (fun p:{n:Nat // n<256}=>e8 p.1)=(L.map (·.1)).map e8 by rw [List.map_map];rfl]
   exact .sl _
 ·obtain ⟨p,_,rfl⟩:=List.mem_map.1 hc
  exact p.2
theorem contract (H:Type) (enc:TypeId × Value->H) (w0:World) (base:Nat) (args:Array Value) (ds gs:List (DataW H)) (before:List MemPlace)
  (hval:∀(j:Nat) t v,Tryz.f4.params[j]?=some t->args[j]?=some v->Value.okWide Tryz.prog w0 .any base t v)
  (hW:DataW.Whole enc Tryz.prog Tryz.f4.params.toList Rows.playEchoesSpec.vars false w0 args.toList ds gs before) (hL:laidMetH Tryz.prog Rows.playEchoesRow.laid w0) :
  Calls Tryz.prog 4 args w0 fun e W'=>∃v,e=.returned v/\Rows.playEchoesSpec.post enc Tryz.prog Tryz.f4 false true false false w0 args v W':=by
 have hW':=hW
 obtain ⟨p,q,hA,hV,_⟩:=hW
 have hs:Rows.playEchoesSpec.fn H ds={results:=[.lit (.bool true)],args:=ds}:=by
  have hA:DataW.TrodAll enc Tryz.prog w0 0 (fun _=>true) true Tryz.f4.params.toList args.toList ds p:=hA
  rw [Tryz.params4] at hA
  obtain ⟨v0,vs0,d0,ds0,p0,q0,_,rfl,_,_,r0⟩:=trodAll_cons hA
  obtain ⟨v1,vs1,d1,ds1,p1,q1,_,rfl,_,_,r1⟩:=trodAll_cons r0
  obtain ⟨_,rfl,_⟩:=trodAll_nil r1
  rfl
 refine qxq (M:=maps) (pg:=W.pgL) (i:=4) (ts:=[22,5,3]) (tb:=4) (b:=base) (r:=.any) (qRT hL) (by kernel_rfl) qSD qSy qId (by kernel_rfl) (by decide)
  (by kernel_rfl) (by rw [Tryz.params4];decide) qIF hval rfl hW' hs (by kernel_rfl) Tryz.underlying4 jf1 (by rw [Tryz.params4];decide +kernel) ?_
 intro xs hxs _
 rw [Tryz.params4] at hxs
 cases hxs with
 | cons h0 hxs=>
  cases hxs with
  | cons h1 hxs=>
   cases hxs
   obtain ⟨s,hX⟩:=qDq h0
   obtain ⟨r,rfl,_⟩:=qCi Tryz.underlying3 h1
   obtain ⟨lo,hr⟩:=qAP hX (r:=r)
   obtain ⟨n,hn⟩:=jD.1 hr
   exact ⟨n,_,hn,rfl,rfl⟩
noncomputable def qrY (os:Os):World:=World.laidAll Tryz.prog os Rows.playEchoesRow.laid
theorem qGr (os:Os):laidMetH Tryz.prog Rows.playEchoesRow.laid ((qrY os).forCall (fun _ _=>0) ⟨#[],#[.slice none 0 0,.int .i64 0],[]⟩).memory:=
 laidMet_laidAll (P:=Tryz.prog) (os:=os) (laid:=Rows.playEchoesRow.laid) #[.slice none 0 0,.int .i64 0] (by kernel_rfl) (by kernel_rfl)
theorem reads (os:Os) {H:Type} (enc:TypeId × Value->H):∃places,DataW.whole enc Tryz.prog ((qrY os).forCall (fun _ _=>0) ⟨#[],#[.slice none 0 0,.int .i64 0],[]⟩).memory Tryz.f4.params.toList Rows.playEchoesSpec.vars false #[Value.slice none 0 0,.int .i64 0].toList 8=some ([.nil,.lit (.int .i64 0)],[],places):=
 ⟨[],by kernel_rfl⟩
theorem lifted (os:Os) (started:os.Started) (H:Type) (enc:TypeId × Value->H) (F:Stop.Interp) :
  ReturnsInHanded {} Tryz.checked os 4 .any ((OpenSpec.ofChange Rows.playEchoesSpec).preRow enc Tryz.prog Tryz.f4 Rows.playEchoesRow.domain false Rows.playEchoesRow.laid) (((OpenSpec.ofChange Rows.playEchoesSpec).at F).post enc Tryz.prog Tryz.f4 false true false false):=by
 obtain ⟨places,hx⟩:=reads os enc
 refine returnsInHanded_of_row (C:=Tryz.checked) (s:=OpenSpec.ofChange Rows.playEchoesSpec) own started (by kernel_rfl) Tryz.func4
  (witness_row_atRef (enc:=enc) (C:=Tryz.checked) false (qrY os) #[.slice none 0 0,.int .i64 0] (World.laidAll_os _ _ _) (by kernel_rfl) (by kernel_rfl) (by kernel_rfl)
   (OpenSpec.preRow_of_cond 8 hx (by kernel_rfl) (fun k hk=>by cases hk) (by kernel_rfl) (qGr os))) ?_
 intro W base args ds gs before hval hW _ _ _ hL _ _
 exact contract H enc W base args ds gs before hval hW hL
theorem said:Rows.PlayEchoesSaid:=
 OpenClaim.holds_of_cond 4 Tryz.f4 rfl rfl rfl rfl rfl rfl rfl ⟨rfl,rfl,rfl,rfl,rfl⟩ rfl rfl rfl rfl rfl (by kernel_rfl) Tryz.func4 closed
  (of_decide_eq_true (by kernel_rfl)) (by unfold Func.isWrapper;first|(rw [if_pos (by decide +kernel)];kernel_rfl)|(rw [if_neg (by decide +kernel)];exact ⟨rfl,rfl⟩))
  (fun os started H enc _ F=>by rw [OpenClaim.pre_eq_preRow];exact lifted os started H enc F)
end Go.Proofs.YtdimnhbfkogllaaGreatDoor
