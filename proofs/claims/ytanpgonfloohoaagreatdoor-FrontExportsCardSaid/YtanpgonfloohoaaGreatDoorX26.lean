/-
  FrontExports, part 26.
-/
import Derived.Test.YtanpgonfloohoaaGreatDoorX8
import Derived.Test.YtanpgonfloohoaaGreatDoorX9
import Derived.Test.YtanpgonfloohoaaGreatDoorX10
import Derived.Test.YtanpgonfloohoaaGreatDoorX25
/- FrontExports: of another module just what it exports may be named, and how it stands in the tree. -/
set_option linter.unusedVariables false
set_option linter.unusedSimpArgs false
namespace W
open Go (World Value Addr IntKind Program TypeId FuncId Operand Act Oper Next Result Sem Ending Exit Code Func DataW MemPlace Calls TypeDesc Lit)
open Go.ChangeShapes Go.RowKit
theorem qrO {P:Program} {Hh:Type} {enc:TypeId × Value→Hh} {W:World} {M:Maps} {f:Func} {fid:FuncId} {s:Go.ChangeSpec} {apart fresh handsOn again:Bool} {args:Array Value} {ds gs:List (DataW Hh)} {before:List MemPlace} {tb:TypeId} {ts:List TypeId} {i:Nat} {r:Go.Reach} {b:Nat}
  (hgl:GlOk M (g0 W) W) (hm:P.follows .mixedOrders=true) (hlook:look M.fm fid=some i)
  (hts:covers P ts=true) (hpar:∀t ∈ f.params.toList,t ∈ ts) {B:DataW Hh→Nat} {BA:List (DataW Hh)→Nat} (hB:Bulk B BA)
  (hval:∀(j:Nat) t v,f.params[j]?=some t→args[j]?=some v→Value.okWide P W r b t v)
  (hvars:s.vars=[]) (hW:DataW.Whole enc P f.params.toList s.vars apart W args.toList ds gs before) (hs:s.fn Hh ds={results:=[.lit (.bool true)],args:=ds}) (hres:f.resultTypes=#[tb]) (htb:P.underlying tb=some .bool)
  (hl:Go.laidOutB P=true) (hread:∀t ∈ f.params.toList,P.readableRec t=true∧t<P.types.size)
  (run:∀xs:List D,All2 (Arg P) f.params.toList xs→D.bulks xs≤BA ds→∃pg:Pg,∃n r,Tab P M pg∧qw P M pg.ext∧qy pg.ext∧pg.fn i≠none∧kR pg n i (xs.map .d) []=some r∧r.pan=false∧r.v=.d (.b true)) :
  Calls P fid args W fun e W'=>∃v,e=.returned v∧s.post enc P f apart fresh handsOn again W args v W':=by
 have hW':=hW
 obtain ⟨p,q,hA,hV,rfl,hfz,hnd⟩:=hW
 obtain ⟨xs,h1,h2,h3⟩:=qun (M:=M) hts hB 0 hpar (fun j t v ht hv=>hval j t v (by simpa using ht) (by simpa using hv)) hA
 obtain ⟨pg,n,q2,hT,hx,hxlo,hext,hrun,hp,hv⟩:=run xs h1 h3
 have hc:=qvu hm hT hx hxlo hrun hlook hext h2 (qDP M W hgl)
 have ha:args.toList.toArray=args:=by simp
 rw [ha] at hc
 refine hc.mono (fun e W' he=>?_)
 cases e with
 | returned v=>
  obtain ⟨_,g',hH,hE,hr⟩:=he
  rw [hv] at hr
  have hvb:v=.bool true:=by
   cases hr with
   | s h=>cases h with
    | d _ _ h=>cases h;rfl
  subst hvb
  exact ⟨_,rfl,qBc hvars hW' hs hres htb hl hread hE.io (qGA hE)⟩
 | panicked ch=>
  obtain ⟨h,_⟩:=he
  rw [hp] at h;cases h
 | outgrown=>exact he.elim
end W
namespace Go.Proofs.YtanpgonfloohoaaGreatDoor
open Go.ChangeShapes Go.WideShapes Go.ChangeAt Go.RowKit W
set_option maxRecDepth 100000
theorem qJw {g:Gh} {w:World} {vs:List V} {H:List W.Obj} {r:Cr} (h:ixX vs H=some r) {argv:List Value} (ha:ArgsRep maps g w 0 vs argv) (hH:RelH maps g w H):qte Tryz.prog 296 argv.toArray w (qH maps g w r):=
 qEZ Tryz.func296 (by decide +kernel) (by kernel_rfl) (by kernel_rfl) (by kernel_rfl) h ha hH
theorem qGF {q:Pg} (hs:∀n,qw Tryz.prog maps (kR q n)) {f:Nat} {vs:List V} {H:List W.Obj} {r:Cr} (h:qf q f vs H=some r) {f':FuncId} (hl:W.look maps.fm f'=some f) {g:Gh} {w:World} {argv:List Value} (ha:ArgsRep maps g w 0 vs argv) (hH:RelH maps g w H):qte Tryz.prog f' argv.toArray w (qH maps g w r):=by
 obtain ⟨n,hn⟩:=jd.1 h
 exact hs n _ _ _ _ hn _ hl g w argv ha hH
theorem tc:qqh Tryz.prog maps W.pg:=qBs qLZ (fun i fn hf=>by
 unfold W.pg W.prog at hf
 simp only [Bool.cond_eq_ite] at hf
 repeat' split at hf
 all_goals first|(cases hf;done)|exact hf) fun _ _ h=>qg9 h
theorem sim:qw Tryz.prog maps W.pg.ext:=by
 intro i vs H r h f' hl g w argv ha hH
 have e:f'=i:=qg9 hl
 subst e
 unfold W.pg at h
 simp only [Bool.cond_eq_ite] at h
 split at h
 ·rename_i hb
  have e2:f'=296:=by simpa using hb
  subst e2
  exact qJw h ha hH
 ·cases h
theorem s (n:Nat):qw Tryz.prog maps (kR W.pg n):=qA5 (by kernel_rfl) tc qw6 (fun _ _ h=>qg9 h) sim qwD n
theorem tcT (gone:Nat→Bool) (T:List Ent):qqh Tryz.prog maps (pgT gone T):=qBs qLZ (fun i fn hf=>by
 unfold pgT W.pg W.prog at hf
 simp only [Bool.cond_eq_ite] at hf
 repeat' split at hf
 all_goals first|(cases hf;done)|exact hf) fun _ _ h=>qg9 h
theorem sT {gone:Nat→Bool} {T:List Ent} (hT:∀e ∈ T,∃q:Pg,(∀n,qw Tryz.prog maps (kR q n))∧e.Ok q) (n:Nat):qw Tryz.prog maps (kR (pgT gone T) n):=
 qA5 (by kernel_rfl) (tcT gone T) qw6 (fun _ _ h=>qg9 h) (by
  intro i vs H r h f' hl g w argv ha hH
  have e:f'=i:=qg9 hl
  subst e
  rcases qvm h with h|h
  ·exact qGF s h hl ha hH
  ·exact qvH hT _ _ _ _ h _ hl g w argv ha hH) j0 n
theorem t0:∀e ∈ quF,∃q:Pg,(∀n,qw Tryz.prog maps (kR q n))∧e.Ok q:=fun e he=>⟨_,s,qCx e he⟩
theorem s1 (n:Nat):qw Tryz.prog maps (kR W.pg1 n):=sT t0 n
theorem more {T:List Ent} (h:∀e ∈ T,∃q:Pg,(∀n,qw Tryz.prog maps (kR q n))∧e.Ok q):∀e ∈ T++quF,∃q:Pg,(∀n,qw Tryz.prog maps (kR q n))∧e.Ok q:=fun e he=>(List.mem_append.1 he).elim (h e) (t0 e)
theorem half {e:Ent} (h:qc7 e):∃q:Pg,(∀n,qw Tryz.prog maps (kR q n))∧e.Ok q:=by
 obtain ⟨g,T,h1,h2⟩:=h
 exact ⟨_,sT (more fun e he=>⟨_,s1,h1 e he⟩),h2⟩
section
variable {b0 b1 b2 b3 b4 b5:Bool} {u:Nat}
theorem qMv (hu:u<8):qw Tryz.prog maps (W.pgL b0 b1 b2 b3 b4 b5 u).ext:=qvH fun e he=>(qF6 hu e he).elim (fun h=>⟨_,s1,h⟩) half
theorem qMA {i:Nat} {fn:W.Fn} (hf:(W.pgL b0 b1 b2 b3 b4 b5 u).fn i=some fn):(i=4∧fn=qb)∨i=9∧fn=q9:=by
 unfold W.pgL at hf
 simp only [Bool.cond_eq_ite] at hf
 split at hf
 ·rename_i hb
  cases Nat.eq_of_beq_eq_true hb
  cases hf
  exact .inl ⟨rfl,rfl⟩
 ·split at hf
  ·rename_i hb
   cases Nat.eq_of_beq_eq_true hb
   cases hf
   exact .inr ⟨rfl,rfl⟩
  ·cases hf
theorem qMk:Tab Tryz.prog maps (W.pgL b0 b1 b2 b3 b4 b5 u):=⟨fun f' i hl fn' hf=>by
 obtain rfl:f'=i:=qg9 hl
 rcases qMA hf with ⟨rfl,rfl⟩|⟨rfl,rfl⟩
 ·exact ⟨_,_,_,Tryz.func4,by decide +kernel,qKG⟩
 ·exact ⟨_,_,_,Tryz.func9,by decide +kernel,qKq⟩,qw6⟩
end
def qD7:D→List Int
 | .agg l=>l.map fun d=>match d with | .i _ n=>n|_=>0
 | _=>[]
theorem qnX {α:Type} {n:Nat} {x:α}:∀{l:List (Nat × α)},W.look l n=some x→(n,x) ∈ l
 | [],h=>by cases h
 | (m,y)::l,h=>by
  simp only [W.look,Bool.cond_eq_ite] at h
  split at h
  ·rename_i hb
   cases h
   have:=Nat.eq_of_beq_eq_true hb
   subst this
   exact .head _
  ·exact .tail _ (qnX h)
theorem qtK {W:World} (hL:laidMetH Tryz.prog Rows.frontExportsRow.laid W) {name:String} {k:IntKind} {d:D} {g:Nat} {t e:TypeId} {n:Nat}
  (hg:Tryz.prog.globalNamed name=some g) (hty:(Tryz.prog.globals[g]?).map (·.type)=some t) (ht:Tryz.prog.underlying t=some (.array n e)) (he:Tryz.prog.underlying e=some (.int k)) (hce:Tryz.prog.cellsOf e=1) (hct:Tryz.prog.cellsOf t=n)
  (hm:(name,Go.Lib.tabData k (qD7 d)) ∈ Rows.frontExportsRow.laid) (hd:d=.agg ((qD7 d).map (D.i k))) (h0:(qD7 d).isEmpty=false) :
  ∃name k zs,Tryz.prog.globalNamed name=some g∧d=.agg (zs.map (D.i k))∧zs≠[]∧Go.Lib.TabIs Tryz.prog W name k zs:=by
 obtain ⟨ps,hv,_⟩:=(show laidMet Tryz.prog Rows.frontExportsRow.laid W from hL)
 exact ⟨name,k,qD7 d,hg,hd,(fun h=>by rw [h] at h0;cases h0),qsw hg hty ht he hce hct hv hm⟩
theorem qM0 {W:World} (hL:laidMetH Tryz.prog Rows.frontExportsRow.laid W):GlOk maps (g0 W) W:=by
 refine qzF (P:=Tryz.prog) ?_ fun n x hn=>?_
 ·intro n hn;exact absurd hn (by simp [maps])
 have hm:=qnX hn
 simp only [maps,List.mem_cons,Prod.mk.injEq,List.not_mem_nil,or_false] at hm
 rcases hm with ⟨rfl,rfl⟩|⟨rfl,rfl⟩|⟨rfl,rfl⟩|⟨rfl,rfl⟩
 ·exact qtK hL (name:= "strings.asciiSpace") (k:=.u8) (d:=glD 0) (by kernel_rfl) (by kernel_rfl) Tryz.underlying207 Tryz.underlying5 (by kernel_rfl) (by kernel_rfl) (.head _) rfl rfl
 ·exact qtK hL (name:= "internal/strconv.uint64pow10") (k:=.u64) (d:=glD 5) (by kernel_rfl) (by kernel_rfl) Tryz.underlying366 Tryz.underlying188 (by kernel_rfl) (by kernel_rfl) (.tail _ (.tail _ (.tail _ (.tail _ (.head _))))) rfl rfl
 ·exact qtK hL (name:= "math/bits.deBruijn32tab") (k:=.u8) (d:=glD 6) (by kernel_rfl) (by kernel_rfl) Tryz.underlying370 Tryz.underlying5 (by kernel_rfl) (by kernel_rfl) (.tail _ (.tail _ (.tail _ (.tail _ (.tail _ (.head _)))))) rfl rfl
 ·exact qtK hL (name:= "math/bits.deBruijn64tab") (k:=.u8) (d:=glD 7) (by kernel_rfl) (by kernel_rfl) Tryz.underlying371 Tryz.underlying5 (by kernel_rfl) (by kernel_rfl) (.tail _ (.tail _ (.tail _ (.tail _ (.tail _ (.tail _ (.head _))))))) rfl rfl
theorem contract (H:Type) (enc:TypeId × Value→H) (w0:World) (base:Nat) (args:Array Value) (ds gs:List (DataW H)) (before:List MemPlace)
  (hval:∀(j:Nat) t v,Tryz.f4.params[j]?=some t→args[j]?=some v→Value.okWide Tryz.prog w0 .any base t v)
  (hW:DataW.Whole enc Tryz.prog Tryz.f4.params.toList Rows.frontExportsSpec.vars false w0 args.toList ds gs before) (hL:laidMetH Tryz.prog Rows.frontExportsRow.laid w0) :
  Calls Tryz.prog 4 args w0 fun e W'=>∃v,e=.returned v∧Rows.frontExportsSpec.post enc Tryz.prog Tryz.f4 false true false false w0 args v W':=by
 have hW':=hW
 obtain ⟨p,q,hA,hV,_⟩:=hW
 have hs:Rows.frontExportsSpec.fn H ds={results:=[.lit (.bool true)],args:=ds}:=by
  have hA:DataW.TrodAll enc Tryz.prog w0 0 (fun _=>true) true Tryz.f4.params.toList args.toList ds p:=hA
  rw [Tryz.params4] at hA
  obtain ⟨v0,vs0,d0,ds0,p0,q0,_,rfl,_,_,r0⟩:=trodAll_cons hA
  obtain ⟨v1,vs1,d1,ds1,p1,q1,_,rfl,_,_,r1⟩:=trodAll_cons r0
  obtain ⟨_,rfl,_⟩:=trodAll_nil r1
  rfl
 refine qrO (M:=maps) (i:=4) (ts:=[5]) (tb:=4) (b:=base) (r:=.any) (qM0 hL) (by kernel_rfl) (by kernel_rfl)
  (by kernel_rfl) (by rw [Tryz.params4];decide) qEV hval rfl hW' hs (by kernel_rfl) Tryz.underlying4 (by kernel_rfl) (by rw [Tryz.params4];decide +kernel) ?_
 intro xs hxs _
 rw [Tryz.params4] at hxs
 cases hxs with
 | cons h0 hxs=>
  cases hxs with
  | cons h1 hxs=>
   cases hxs
   obtain ⟨a,rfl,ha⟩:=qxN Tryz.underlying5 h0
   obtain ⟨b,rfl,hb⟩:=qxN Tryz.underlying5 h1
   simp [Lit.wf,IntKind.min,IntKind.max,IntKind.bits,IntKind.signed] at ha hb
   obtain ⟨a,rfl⟩:=Int.eq_ofNat_of_zero_le ha.1
   obtain ⟨b,rfl⟩:=Int.eq_ofNat_of_zero_le hb.1
   obtain ⟨u,hu,lo,hr⟩:=qvG (m:=a) (c:=b) (by omega)
   obtain ⟨n,hn⟩:=jd.1 hr
   exact ⟨_,n,_,qMk,qMv hu,qC4,fun h=>(by cases h),hn,rfl,rfl⟩
noncomputable def qoT (os:Os):World:=World.laidAll Tryz.prog os Rows.frontExportsRow.laid
theorem qzZ (os:Os):laidMetH Tryz.prog Rows.frontExportsRow.laid ((qoT os).forCall (fun _ _=>0) ⟨#[],#[.int .u8 0,.int .u8 0],[]⟩).memory:=
 laidMet_laidAll (P:=Tryz.prog) (os:=os) (laid:=Rows.frontExportsRow.laid) #[.int .u8 0,.int .u8 0] (by kernel_rfl) (by kernel_rfl)
theorem reads (os:Os) {H:Type} (enc:TypeId × Value→H):∃places,DataW.whole enc Tryz.prog ((qoT os).forCall (fun _ _=>0) ⟨#[],#[.int .u8 0,.int .u8 0],[]⟩).memory Tryz.f4.params.toList Rows.frontExportsSpec.vars false #[Value.int .u8 0,.int .u8 0].toList 8=some ([.lit (.int .u8 0),.lit (.int .u8 0)],[],places):=
 ⟨[],by kernel_rfl⟩
theorem lifted (os:Os) (started:os.Started) (H:Type) (enc:TypeId × Value→H) (F:Stop.Interp) :
  ReturnsInHanded {} Tryz.checked os 4 .any ((OpenSpec.ofChange Rows.frontExportsSpec).preRow enc Tryz.prog Tryz.f4 Rows.frontExportsRow.domain false Rows.frontExportsRow.laid) (((OpenSpec.ofChange Rows.frontExportsSpec).at F).post enc Tryz.prog Tryz.f4 false true false false):=by
 obtain ⟨places,hx⟩:=reads os enc
 refine returnsInHanded_of_row (C:=Tryz.checked) (s:=OpenSpec.ofChange Rows.frontExportsSpec) own started (by kernel_rfl) Tryz.func4
  (witness_row_atRef (enc:=enc) (C:=Tryz.checked) false (qoT os) #[.int .u8 0,.int .u8 0] (World.laidAll_os _ _ _) (by kernel_rfl) (by kernel_rfl) (by kernel_rfl)
   (OpenSpec.preRow_of_cond 8 hx (by kernel_rfl) (fun k hk=>by cases hk) (by kernel_rfl) (qzZ os))) ?_
 intro W base args ds gs before hval hW _ _ _ hL _ _
 exact contract H enc W base args ds gs before hval hW hL
theorem said:Rows.FrontExportsSaid:=
 OpenClaim.holds_of_cond 4 Tryz.f4 rfl rfl rfl rfl rfl rfl rfl ⟨rfl,rfl,rfl,rfl,rfl⟩ rfl rfl rfl rfl rfl (by kernel_rfl) Tryz.func4 closed
  (of_decide_eq_true (by kernel_rfl)) (by unfold Func.isWrapper;first|(rw [if_pos (by decide +kernel)];kernel_rfl)|(rw [if_neg (by decide +kernel)];exact ⟨rfl,rfl⟩))
  (fun os started H enc _ F=>by rw [OpenClaim.pre_eq_preRow];exact lifted os started H enc F)
end Go.Proofs.YtanpgonfloohoaaGreatDoor
