/-
  RiscInstrs: any instruction is the document's word, and read back, or refused, and how it is told: part 6 of what the proof rests on (a value semantics for a part of the language, sound against the model; the walks).
-/
import Derived.Shelf.Strings.Builder1
import Derived.Shelf.Strings.Builder2
import Derived.Shelf.Strings.OnBuilder
import Derived.Shelf.Strings.Builder2Cap
import Derived.Shelf.LaysM
import Derived.Test.YteejlnlcjmaibaaDoorProg
import Derived.WalkKit
import Derived.ProofKit
import Derived.OpenShut
import Derived.Carry
import Derived.ChangeSame
import Derived.RowKit
import Derived.Lib.LaidTab
import Derived.Test.YteejlnlcjmaibaaDoorW5
set_option linter.unusedSimpArgs false
set_option linter.unusedVariables false
namespace W
open Go (IntKind BinOp UnOp)
set_option maxRecDepth 20000
theorem callL_x {pg : Pg} {f : Nat} {vs : List V} {H : List Obj} (hf : pg.fn f = none) : callL pg f vs H = pg.ext f vs H := by
  rw [callL_eq]; unfold callWith; rw [hf]
def condsL : List (List Nat) := [[77, 73], [69, 81], [67, 83], [86, 83], [76, 83], [76, 84], [76, 69], [], [80, 76], [78, 69], [67, 67], [86, 67], [72, 73], [71, 69], [71, 84], [78, 86]]
theorem opsL_at {o : Nat} (h : o < 16) : ∃ y : List Nat, opsL[o]? = some y ∧ y.length ≤ 10 := by
  have hl : opsL.length = 16 := rfl
  refine ⟨opsL[o]'(by omega), List.getElem?_eq_getElem _, ?_⟩
  have key : ∀ y ∈ opsL, y.length ≤ 10 := by decide +kernel
  exact key _ (List.getElem_mem _)
theorem condsL_at {o : Nat} (h : o < 16) : ∃ y : List Nat, condsL[o]? = some y ∧ y.length ≤ 10 := by
  have hl : condsL.length = 16 := rfl
  refine ⟨condsL[o]'(by omega), List.getElem?_eq_getElem _, ?_⟩
  have key : ∀ y ∈ condsL, y.length ≤ 10 := by decide +kernel
  exact key _ (List.getElem_mem _)
theorem decN_len10 {n : Nat} (h : n < 4294967296) : (decN n).length ≤ 10 := by
  by_cases h0 : n = 0
  · subst h0; rw [decN_small (by omega)]; simp
  · exact (fb_dec (H := [.cells zs]) (p := 0) (c := 0) rfl (by simp) (by omega) h).1
theorem decI_len {x : Int} (h1 : -2147483648 ≤ x) (h2 : x ≤ 2147483648) : (decI x).length ≤ 11 := by
  unfold decI
  split
  · have := decN_len10 (n := (-x).toNat) (by omega); simp; omega
  · have := decN_len10 (n := x.toNat) (by omega); omega
theorem sadde {x y : List Nat} {n m : Nat} (hx : x.length ≤ n) (hy : y.length ≤ m) (h : n + m ≤ 1000000) : ∃ z : List Nat, z = x ++ y ∧ z.length ≤ n + m ∧ ∀ c, binV .add .num c (.d (.s x)) (.d (.s y)) = some (.d (.s z)) :=
  ⟨_, rfl, by simp; omega, fun c => bin_sadd (by omega)⟩
def regT (n : Int) : List Nat := 82 :: decI n
theorem regT_len {n : Int} (h1 : -2147483648 ≤ n) (h2 : n ≤ 2147483648) : (regT n).length ≤ 12 := by have := decI_len h1 h2; simp [regT]; omega
theorem reg_call {n : Int} {H : List Obj} (h1 : -2147483648 ≤ n) (h2 : n ≤ 2147483648) : callL pg 18 [.d (.i .i64 n)] H = some ⟨false, true, .d (.s (regT n)), H, H.length⟩ := by
  rw [callL_fn (fn := f_risc_reg) rfl rfl]
  have hl := decI_len h1 h2
  have hc : ∀ c, binV .add .num c (.d (.s [82])) (.d (.s (decI n))) = some (.d (.s (regT n))) := fun c => bin_sadd (by simp; omega)
  simp only [f_risc_reg, argEnv_cons, Nat.zero_add, argEnv_nil, exL_seq, exL_ops, runOps_n, evalK_mov, rd_c, spent_c, opC_ok, put_d, runOps_nil, thenC_nrm, rd_mv, reduceCtorEq, get_ne, get_eq, takeV_d, spent_mv, evalK_call, List.map_cons, List.map_nil, allLeave_cons, leaves_d, allLeave_nil, Bool.and_self, eCall_f, itoa_call h1 h2, callC_some, spentAll_cons, spentAll_nil, Nat.min_self, evalK_bin, isC_c, isC_t, Bool.or_false, rd_t, readV_d, hc, okS_some, spent_t, exL_ret, finC_ret, resultVs_cons, resultV_t, ownV_d, resultVs_nil, consO_some, leaveC_1, ref_d, settle_d, leave_pure]
theorem regR_call {n : Int} {H : List Obj} (h1 : -2147483648 ≤ n) (h2 : n ≤ 2147483648) : callL pg 24 [.d (.i .i64 n)] H = some ⟨false, true, .d (.s (regT n)), H, H.length⟩ := by
  rw [callL_fn (fn := f_waferref5_reg) rfl rfl]
  have hl := decI_len h1 h2
  have hc : ∀ c, binV .add .num c (.d (.s [82])) (.d (.s (decI n))) = some (.d (.s (regT n))) := fun c => bin_sadd (by simp; omega)
  have hd := dec_call (H := H) (x := n) (by omega) (by omega)
  simp only [f_waferref5_reg, argEnv_cons, Nat.zero_add, argEnv_nil, exL_seq, exL_ops, runOps_n, evalK_mov, rd_c, spent_c, opC_ok, put_d, runOps_nil, thenC_nrm, rd_mv, reduceCtorEq, get_ne, get_eq, takeV_d, spent_mv, evalK_call, List.map_cons, List.map_nil, allLeave_cons, leaves_d, allLeave_nil, Bool.and_self, eCall_f, hd, callC_some, spentAll_cons, spentAll_nil, Nat.min_self, evalK_bin, isC_c, isC_t, Bool.or_false, rd_t, readV_d, hc, okS_some, spent_t, exL_ret, finC_ret, resultVs_cons, resultV_t, ownV_d, resultVs_nil, consO_some, leaveC_1, ref_d, settle_d, leave_pure]
theorem either_call {b : Bool} {s t : List Nat} {H : List Obj} : callL pg 20 [.d (.b b), .d (.s s), .d (.s t)] H = some ⟨false, true, .d (.s (bif b then s else t)), H, H.length⟩ := by
  rw [callL_fn (fn := f_risc_either) rfl rfl]
  cases b <;> simp only [f_risc_either, argEnv_cons, Nat.zero_add, Nat.reduceAdd, argEnv_nil, exL_seq, exL_ops, runOps_n, evalK_mov, rd_c, spent_c, opC_ok, put_d, runOps_nil, thenC_nrm, rd_t, reduceCtorEq, get_ne, get_eq, readV_d, spent_t, exL_cond, condC_b, Bool.false_eq_true, ↓reduceIte, exL_skip, Nat.reduceEqDiff, exL_ret, finC_ret, resultVs_cons, resultV_t, ownV_d, resultVs_nil, consO_some, leaveC_1, leaves_d, ref_d, settle_d, leave_pure, cond_false, thenC_ret, cond_true]
theorem conds_call {H : List Obj} : callL pg 21 [] H = some ⟨false, true, .osl (condsL.map D.s), H, H.length⟩ := by
  rw [callL_fn (fn := f_risc_conditions) rfl rfl]
  unfold condsL
  simp only [f_risc_conditions, argEnv_nil, exL_seq, exL_ops, runOps_n, evalK_mov, rd_c, spent_c, opC_ok, put_d, runOps_nil, thenC_nrm, evalK_buildSlice, dcells_s, List.length_cons, List.length_nil, Nat.zero_add, List.reduceReplicate, List.map_cons, List.map_nil, Nat.reduceAdd, Nat.reduceLT, fillD_cons, List.set_cons_zero, List.set_cons_succ, fillD_nil, wfs_cons, one_s, wf_one, wfs_nil, Bool.and_self, slO_some, okS_some, put_osl, rd_mv, get_eq, takeV_osl, spent_mv, exL_ret, finC_ret, resultVs_cons, resultV_t, ownV_oslT, resultVs_nil, consO_some, leaveC_1, leaves_osl, ref_osl, settle_osl, leave_pure]
  all_goals rfl
theorem join_row {off len cap : Nat} {cs : List V} {ds : List D} {L : List (List Nat)} {sep : List Nat} (h0 : off + len ≤ cs.length) (h1 : allD ((cs.drop off).take len) = some ds) (h2 : ds.length = len) (h3 : strs ds = some L) (h4 : L ≠ []) (h5 : L.length ≤ 1000000) (h6 : (joinN sep L).length ≤ 1000000) :
    callL pg 22 [.rs 0 off len cap, .d (.s sep)] [.cells cs] = some ⟨false, true, .d (.s (joinN sep L)), [.cells cs], 1⟩ := by
  rw [callL_x rfl]
  show joinX [.rs 0 off len cap, .d (.s sep)] [.cells cs] = _
  have b0 : Nat.ble (off + len) cs.length = true := by rw [ble_d]; exact decide_eq_true h0
  have b1 : Nat.beq ds.length len = true := by rw [h2]; exact Nat.beq_refl len
  have b2 : Nat.ble L.length 1000000 = true := by rw [ble_d]; exact decide_eq_true h5
  have b3 : Nat.ble (joinN sep L).length 1000000 = true := by rw [ble_d]; exact decide_eq_true h6
  unfold joinX
  simp only [joinR, List.getElem?_cons_zero, b0, cond_true, h1, b1]
  cases ds with
  | nil => simp [strs] at h3; exact absurd h3 h4
  | cons d ds => simp only [joinG, h3, b2, b3, Bool.and_self, cond_true]; rfl
theorem setAt_one {o o' : Obj} : setAt [o] 0 o' = [o'] := rfl
theorem opsR_ix {o : Nat} {y : List Nat} (h : opsL[o]? = some y) : iaV (.d (.sl [.s [77, 79, 86], .s [76, 83, 76], .s [65, 83, 82], .s [82, 79, 82], .s [65, 78, 68], .s [65, 78, 78], .s [73, 79, 82], .s [88, 79, 82], .s [65, 68, 68], .s [83, 85, 66], .s [77, 85, 76], .s [68, 73, 86], .s [70, 65, 68], .s [70, 83, 66], .s [70, 77, 76], .s [70, 68, 86]])) (.d (.i .i64 (o : Int))) 1 none = some (.cp (.s y)) := by
  show iaV (.d (.sl (opsL.map D.s))) (.d (.i .i64 (o : Int))) 1 none = _
  exact iaV_sl (by omega) (by rw [Int.toNat_natCast, List.getElem?_map, h]; rfl) (eq_true rfl)
theorem condsR_ix {o : Nat} {y : List Nat} (h : condsL[o]? = some y) : iaV (.d (.sl [.s [77, 73], .s [69, 81], .s [67, 83], .s [86, 83], .s [76, 83], .s [76, 84], .s [76, 69], .s [], .s [80, 76], .s [78, 69], .s [67, 67], .s [86, 67], .s [72, 73], .s [71, 69], .s [71, 84], .s [78, 86]])) (.d (.i .i64 (o : Int))) 1 none = some (.cp (.s y)) := by
  show iaV (.d (.sl (condsL.map D.s))) (.d (.i .i64 (o : Int))) 1 none = _
  exact iaV_sl (by omega) (by rw [Int.toNat_natCast, List.getElem?_map, h]; rfl) (eq_true rfl)
/-- An instruction's text. -/
def textI (i : Ins) : List Nat :=
  bif rightB i then
    (bif decide (i.F < 2) then (opsL[i.Op.toNat]?.getD []) ++ ((bif i.U then [39] else []) ++ ((bif i.V then [35] else []) ++ ([32] ++ (regT i.A ++ ([44, 32] ++ (regT i.B ++ ([44, 32] ++ (bif decide (i.F = 0) then regT i.C else decI i.Imm))))))))
    else bif decide (i.F = 2) then (bif i.U then [83, 84, 82] else [76, 68, 82]) ++ ((bif i.V then [66] else []) ++ ([32] ++ (regT i.A ++ ([44, 32] ++ (regT i.B ++ ([44, 32] ++ decI i.Imm))))))
    else (bif i.V then [66, 76] else [66]) ++ ((condsL[i.A.toNat]?.getD []) ++ ([32] ++ (bif i.U then decI i.Imm else regT i.C ++ ([44, 32] ++ decI i.Imm)))))
  else [63]
theorem join2 {o : Obj} {off len cap : Nat} {cs : List V} {ds : List D} {L : List (List Nat)} {sep : List Nat} (h0 : off + len ≤ cs.length) (h1 : allD ((cs.drop off).take len) = some ds) (h2 : ds.length = len) (h3 : strs ds = some L) (h4 : L ≠ []) (h5 : L.length ≤ 1000000) (h6 : (joinN sep L).length ≤ 1000000) :
    callL pg 22 [.rs 1 off len cap, .d (.s sep)] [o, .cells cs] = some ⟨false, true, .d (.s (joinN sep L)), [o, .cells cs], 2⟩ := by
  rw [callL_x rfl]
  show joinX [.rs 1 off len cap, .d (.s sep)] [o, .cells cs] = _
  have b0 : Nat.ble (off + len) cs.length = true := by rw [ble_d]; exact decide_eq_true h0
  have b1 : Nat.beq ds.length len = true := by rw [h2]; exact Nat.beq_refl len
  have b2 : Nat.ble L.length 1000000 = true := by rw [ble_d]; exact decide_eq_true h5
  have b3 : Nat.ble (joinN sep L).length 1000000 = true := by rw [ble_d]; exact decide_eq_true h6
  unfold joinX
  simp only [joinR, List.getElem?_cons_succ, List.getElem?_cons_zero, b0, cond_true, h1, b1]
  cases ds with
  | nil => simp [strs] at h3; exact absurd h3 h4
  | cons d ds => simp only [joinG, h3, b2, b3, Bool.and_self, cond_true]; rfl
theorem textR_call {i : Ins} (hi1 : -2147483648 ≤ i.Imm) (hi2 : i.Imm < 2147483648) : callL pg 10 [.d (eI i)] [] = some ⟨false, true, .d (.s (textI i)), [], 0⟩ := by
  rw [callL_fn (fn := f_waferref5_Text) rfl rfl]
  cases h : rightB i
  · have hr := encodeR_no (H := []) h hi1 hi2
    obtain ⟨x, hr⟩ := hr
    unfold textI
    rw [h]
    unfold eI at hr ⊢
    simp only [f_waferref5_Text, argEnv_cons, Nat.zero_add, argEnv_nil, List.length_nil, exL_seq, exL_ops, runOps_n, evalK_box, rd_t, get_eq, readV_d, spent_t, cells_agg, List.map_cons, List.map_nil, ones_cons, vone_d, one_i, one_b, ones_nil, Bool.and_self, boxN_t, opC_ok, put_box, killLp_cons, killV_d, killLp_nil, evalK_mov, rd_c, spent_c, put_d, runOps_nil, thenC_nrm, evalK_load, Nat.reduceEqDiff, get_ne, readV_box, loadV_lp, List.length_cons, Nat.reduceAdd, Nat.reduceLeDiff, boxV_A, List.drop_zero, List.take_succ_cons, List.take_zero, copy1_d, mkAgg_eq, allD_d, allD_nil, consD_some, aggV_some, okS_some, evalK_call, allLeave_cons, leaves_d, allLeave_nil, eCall_f, hr, callC_some, spentAll_cons, spentAll_nil, Nat.min_self, put_tup, readV_tup, evalK_extract, extV_0, copy_d, extV_1, evalK_un, un_not, Bool.not_false, Option.map_some, exL_cond, condC_b, ↓reduceIte, exL_ret, thenC_ret, finC_ret, resultVs_cons, resultV_t, ownV_d, resultVs_nil, consO_some, leaveC_1, List.cons_append, List.nil_append]
    all_goals rfl
  have hr := encodeR_yes (H := []) h hi1 hi2
  have h' := h
  unfold textI
  rw [h]
  obtain ⟨F, U, V, A, B, C, Op, Imm⟩ := i
  simp only at hi1 hi2
  simp only [rightB, nibs, Bool.and_eq_true] at h
  obtain ⟨⟨⟨⟨nA, nB⟩, nC⟩, nO⟩, hF⟩ := h
  obtain ⟨a, rfl, ha⟩ := nib_nat nA
  obtain ⟨b, rfl, hb⟩ := nib_nat nB
  obtain ⟨c, rfl, hc⟩ := nib_nat nC
  obtain ⟨o, rfl, ho⟩ := nib_nat nO
  have lA := regT_len (n := (a : Int)) (by omega) (by omega)
  have lB := regT_len (n := (b : Int)) (by omega) (by omega)
  have lC := regT_len (n := (c : Int)) (by omega) (by omega)
  have lI := decI_len (x := Imm) (by omega) (by omega)
  have wm : wr .i64 Imm = Imm := wr_i64 (by omega) (by omega)
  obtain ⟨y, hy, ly⟩ := opsL_at ho
  obtain ⟨z, hz, lz⟩ := condsL_at ha
  have zm : ∀ n : Nat, min 0 n = 0 := Nat.zero_min
  unfold eI at hr ⊢
  simp only at hr
  have rA := regR_call (n := (a : Int)) (H := []) (by omega) (by omega)
  have rB := regR_call (n := (b : Int)) (H := []) (by omega) (by omega)
  have rC := regR_call (n := (c : Int)) (H := []) (by omega) (by omega)
  have rI := dec_call (H := []) (x := Imm) (by omega) (by omega)
  have ix := opsR_ix hy
  have iz := condsR_ix hz
  by_cases f0 : F = 0
  · subst f0
    cases U <;> cases V
    · obtain ⟨s0, e0, l0, q0⟩ := sadde (x := y) (y := [32]) (n := 10) (m := 1) ly (by simp) (by omega)
      obtain ⟨s1, e1, l1, q1⟩ := sadde (x := s0) (y := (regT (a : Int))) (n := (10 + 1)) (m := 12) l0 lA (by omega)
      obtain ⟨s2, e2, l2, q2⟩ := sadde (x := s1) (y := [44, 32]) (n := ((10 + 1) + 12)) (m := 2) l1 (by simp) (by omega)
      obtain ⟨s3, e3, l3, q3⟩ := sadde (x := s2) (y := (regT (b : Int))) (n := (((10 + 1) + 12) + 2)) (m := 12) l2 lB (by omega)
      obtain ⟨s4, e4, l4, q4⟩ := sadde (x := s3) (y := [44, 32]) (n := ((((10 + 1) + 12) + 2) + 12)) (m := 2) l3 (by simp) (by omega)
      obtain ⟨s5, e5, l5, q5⟩ := sadde (x := s4) (y := (regT (c : Int))) (n := (((((10 + 1) + 12) + 2) + 12) + 2)) (m := 12) l4 lC (by omega)
      have fin : (bif true then (bif decide ((0 : Int) < 2) then (opsL[(o : Int).toNat]?.getD []) ++ ((bif false then [39] else []) ++ ((bif false then [35] else []) ++ ([32] ++ (regT (a : Int) ++ ([44, 32] ++ (regT (b : Int) ++ ([44, 32] ++ (bif decide ((0 : Int) = 0) then regT (c : Int) else decI Imm)))))))) else bif decide ((0 : Int) = 2) then (bif false then [83, 84, 82] else [76, 68, 82]) ++ ((bif false then [66] else []) ++ ([32] ++ (regT (a : Int) ++ ([44, 32] ++ (regT (b : Int) ++ ([44, 32] ++ decI Imm)))))) else (bif false then [66, 76] else [66]) ++ ((condsL[(a : Int).toNat]?.getD []) ++ ([32] ++ (bif false then decI Imm else regT (c : Int) ++ ([44, 32] ++ decI Imm))))) else [63]) = s5 := by
        rw [e5, e4, e3, e2, e1, e0]
        simp [hy, hz, joinN]
      rw [fin]
      simp only [f_waferref5_Text, argEnv_cons, Nat.zero_add, argEnv_nil, List.length_nil, exL_seq, exL_ops, runOps_n, evalK_box, rd_t, get_eq, readV_d, spent_t, cells_agg, List.map_cons, List.map_nil, ones_cons, vone_d, one_i, one_b, ones_nil, Bool.and_self, boxN_t, opC_ok, put_box, killLp_cons, killV_d, killLp_nil, evalK_mov, rd_c, spent_c, put_d, runOps_nil, thenC_nrm, evalK_load, Nat.reduceEqDiff, get_ne, readV_box, loadV_lp, List.length_cons, Nat.reduceAdd, Nat.reduceLeDiff, boxV_A, List.drop_zero, List.take_succ_cons, List.take_zero, copy1_d, mkAgg_eq, allD_d, allD_nil, consD_some, aggV_some, okS_some, evalK_call, allLeave_cons, leaves_d, allLeave_nil, eCall_f, hr, callC_some, spentAll_cons, spentAll_nil, zm, put_tup, readV_tup, evalK_extract, extV_0, copy_d, extV_1, evalK_un, un_not, Bool.not_true, Option.map_some, exL_cond, condC_b, Bool.false_eq_true, ↓reduceIte, exL_skip, evalK_fieldAddr, faV_lp, put_lp, readV_lp, boxV_1, List.getElem?_cons_succ, List.getElem?_cons_zero, evalK_conv, wm, rI, rd_mv, takeV_d, spent_mv, Nat.add_zero, exL_block, evalK_bin, isC_t, isC_c, Bool.or_true, bin_eql, decide_true, evalK_buildSlice, dcells_s, List.reduceReplicate, Nat.reduceLT, fillD_cons, List.set_cons_zero, List.set_cons_succ, fillD_nil, wfs_cons, one_s, wf_one, wfs_nil, slO_some, put_osl, evalK_indexAddr, readV_osl, ix, put_cp, readV_cp, loadV_cp_s, rC, exL_opsD, runOpsD_n, opDC_same, putD_d, putC_some, q0, putD_lp, hasNat_nil, lpD_f, rA, Bool.or_self, q1, q2, rB, q3, q4, q5, runOpsD_nil, exL_ret, blockC_ret, thenC_ret, finC_ret, resultVs_cons, resultV_t, ownV_d, resultVs_nil, consO_some, leaveC_1]
      all_goals rfl
    · obtain ⟨s0, e0, l0, q0⟩ := sadde (x := y) (y := [35]) (n := 10) (m := 1) ly (by simp) (by omega)
      obtain ⟨s1, e1, l1, q1⟩ := sadde (x := s0) (y := [32]) (n := (10 + 1)) (m := 1) l0 (by simp) (by omega)
      obtain ⟨s2, e2, l2, q2⟩ := sadde (x := s1) (y := (regT (a : Int))) (n := ((10 + 1) + 1)) (m := 12) l1 lA (by omega)
      obtain ⟨s3, e3, l3, q3⟩ := sadde (x := s2) (y := [44, 32]) (n := (((10 + 1) + 1) + 12)) (m := 2) l2 (by simp) (by omega)
      obtain ⟨s4, e4, l4, q4⟩ := sadde (x := s3) (y := (regT (b : Int))) (n := ((((10 + 1) + 1) + 12) + 2)) (m := 12) l3 lB (by omega)
      obtain ⟨s5, e5, l5, q5⟩ := sadde (x := s4) (y := [44, 32]) (n := (((((10 + 1) + 1) + 12) + 2) + 12)) (m := 2) l4 (by simp) (by omega)
      obtain ⟨s6, e6, l6, q6⟩ := sadde (x := s5) (y := (regT (c : Int))) (n := ((((((10 + 1) + 1) + 12) + 2) + 12) + 2)) (m := 12) l5 lC (by omega)
      have fin : (bif true then (bif decide ((0 : Int) < 2) then (opsL[(o : Int).toNat]?.getD []) ++ ((bif false then [39] else []) ++ ((bif true then [35] else []) ++ ([32] ++ (regT (a : Int) ++ ([44, 32] ++ (regT (b : Int) ++ ([44, 32] ++ (bif decide ((0 : Int) = 0) then regT (c : Int) else decI Imm)))))))) else bif decide ((0 : Int) = 2) then (bif false then [83, 84, 82] else [76, 68, 82]) ++ ((bif true then [66] else []) ++ ([32] ++ (regT (a : Int) ++ ([44, 32] ++ (regT (b : Int) ++ ([44, 32] ++ decI Imm)))))) else (bif true then [66, 76] else [66]) ++ ((condsL[(a : Int).toNat]?.getD []) ++ ([32] ++ (bif false then decI Imm else regT (c : Int) ++ ([44, 32] ++ decI Imm))))) else [63]) = s6 := by
        rw [e6, e5, e4, e3, e2, e1, e0]
        simp [hy, hz, joinN]
      rw [fin]
      simp only [f_waferref5_Text, argEnv_cons, Nat.zero_add, argEnv_nil, List.length_nil, exL_seq, exL_ops, runOps_n, evalK_box, rd_t, get_eq, readV_d, spent_t, cells_agg, List.map_cons, List.map_nil, ones_cons, vone_d, one_i, one_b, ones_nil, Bool.and_self, boxN_t, opC_ok, put_box, killLp_cons, killV_d, killLp_nil, evalK_mov, rd_c, spent_c, put_d, runOps_nil, thenC_nrm, evalK_load, Nat.reduceEqDiff, get_ne, readV_box, loadV_lp, List.length_cons, Nat.reduceAdd, Nat.reduceLeDiff, boxV_A, List.drop_zero, List.take_succ_cons, List.take_zero, copy1_d, mkAgg_eq, allD_d, allD_nil, consD_some, aggV_some, okS_some, evalK_call, allLeave_cons, leaves_d, allLeave_nil, eCall_f, hr, callC_some, spentAll_cons, spentAll_nil, zm, put_tup, readV_tup, evalK_extract, extV_0, copy_d, extV_1, evalK_un, un_not, Bool.not_true, Option.map_some, exL_cond, condC_b, Bool.false_eq_true, ↓reduceIte, exL_skip, evalK_fieldAddr, faV_lp, put_lp, readV_lp, boxV_1, List.getElem?_cons_succ, List.getElem?_cons_zero, evalK_conv, wm, rI, rd_mv, takeV_d, spent_mv, Nat.add_zero, exL_block, evalK_bin, isC_t, isC_c, Bool.or_true, bin_eql, decide_true, evalK_buildSlice, dcells_s, List.reduceReplicate, Nat.reduceLT, fillD_cons, List.set_cons_zero, List.set_cons_succ, fillD_nil, wfs_cons, one_s, wf_one, wfs_nil, slO_some, put_osl, evalK_indexAddr, readV_osl, ix, put_cp, readV_cp, loadV_cp_s, q0, rC, exL_opsD, runOpsD_n, opDC_same, putD_d, putC_some, q1, putD_lp, hasNat_nil, lpD_f, rA, Bool.or_self, q2, q3, rB, q4, q5, q6, runOpsD_nil, exL_ret, blockC_ret, thenC_ret, finC_ret, resultVs_cons, resultV_t, ownV_d, resultVs_nil, consO_some, leaveC_1]
      all_goals rfl
    · obtain ⟨s0, e0, l0, q0⟩ := sadde (x := y) (y := [39]) (n := 10) (m := 1) ly (by simp) (by omega)
      obtain ⟨s1, e1, l1, q1⟩ := sadde (x := s0) (y := [32]) (n := (10 + 1)) (m := 1) l0 (by simp) (by omega)
      obtain ⟨s2, e2, l2, q2⟩ := sadde (x := s1) (y := (regT (a : Int))) (n := ((10 + 1) + 1)) (m := 12) l1 lA (by omega)
      obtain ⟨s3, e3, l3, q3⟩ := sadde (x := s2) (y := [44, 32]) (n := (((10 + 1) + 1) + 12)) (m := 2) l2 (by simp) (by omega)
      obtain ⟨s4, e4, l4, q4⟩ := sadde (x := s3) (y := (regT (b : Int))) (n := ((((10 + 1) + 1) + 12) + 2)) (m := 12) l3 lB (by omega)
      obtain ⟨s5, e5, l5, q5⟩ := sadde (x := s4) (y := [44, 32]) (n := (((((10 + 1) + 1) + 12) + 2) + 12)) (m := 2) l4 (by simp) (by omega)
      obtain ⟨s6, e6, l6, q6⟩ := sadde (x := s5) (y := (regT (c : Int))) (n := ((((((10 + 1) + 1) + 12) + 2) + 12) + 2)) (m := 12) l5 lC (by omega)
      have fin : (bif true then (bif decide ((0 : Int) < 2) then (opsL[(o : Int).toNat]?.getD []) ++ ((bif true then [39] else []) ++ ((bif false then [35] else []) ++ ([32] ++ (regT (a : Int) ++ ([44, 32] ++ (regT (b : Int) ++ ([44, 32] ++ (bif decide ((0 : Int) = 0) then regT (c : Int) else decI Imm)))))))) else bif decide ((0 : Int) = 2) then (bif true then [83, 84, 82] else [76, 68, 82]) ++ ((bif false then [66] else []) ++ ([32] ++ (regT (a : Int) ++ ([44, 32] ++ (regT (b : Int) ++ ([44, 32] ++ decI Imm)))))) else (bif false then [66, 76] else [66]) ++ ((condsL[(a : Int).toNat]?.getD []) ++ ([32] ++ (bif true then decI Imm else regT (c : Int) ++ ([44, 32] ++ decI Imm))))) else [63]) = s6 := by
        rw [e6, e5, e4, e3, e2, e1, e0]
        simp [hy, hz, joinN]
      rw [fin]
      simp only [f_waferref5_Text, argEnv_cons, Nat.zero_add, argEnv_nil, List.length_nil, exL_seq, exL_ops, runOps_n, evalK_box, rd_t, get_eq, readV_d, spent_t, cells_agg, List.map_cons, List.map_nil, ones_cons, vone_d, one_i, one_b, ones_nil, Bool.and_self, boxN_t, opC_ok, put_box, killLp_cons, killV_d, killLp_nil, evalK_mov, rd_c, spent_c, put_d, runOps_nil, thenC_nrm, evalK_load, Nat.reduceEqDiff, get_ne, readV_box, loadV_lp, List.length_cons, Nat.reduceAdd, Nat.reduceLeDiff, boxV_A, List.drop_zero, List.take_succ_cons, List.take_zero, copy1_d, mkAgg_eq, allD_d, allD_nil, consD_some, aggV_some, okS_some, evalK_call, allLeave_cons, leaves_d, allLeave_nil, eCall_f, hr, callC_some, spentAll_cons, spentAll_nil, zm, put_tup, readV_tup, evalK_extract, extV_0, copy_d, extV_1, evalK_un, un_not, Bool.not_true, Option.map_some, exL_cond, condC_b, Bool.false_eq_true, ↓reduceIte, exL_skip, evalK_fieldAddr, faV_lp, put_lp, readV_lp, boxV_1, List.getElem?_cons_succ, List.getElem?_cons_zero, evalK_conv, wm, rI, rd_mv, takeV_d, spent_mv, Nat.add_zero, exL_block, evalK_bin, isC_t, isC_c, Bool.or_true, bin_eql, decide_true, evalK_buildSlice, dcells_s, List.reduceReplicate, Nat.reduceLT, fillD_cons, List.set_cons_zero, List.set_cons_succ, fillD_nil, wfs_cons, one_s, wf_one, wfs_nil, slO_some, put_osl, evalK_indexAddr, readV_osl, ix, put_cp, readV_cp, loadV_cp_s, q0, rC, exL_opsD, runOpsD_n, opDC_same, putD_d, putC_some, q1, putD_lp, hasNat_nil, lpD_f, rA, Bool.or_self, q2, q3, rB, q4, q5, q6, runOpsD_nil, exL_ret, blockC_ret, thenC_ret, finC_ret, resultVs_cons, resultV_t, ownV_d, resultVs_nil, consO_some, leaveC_1]
      all_goals rfl
    · obtain ⟨s0, e0, l0, q0⟩ := sadde (x := y) (y := [39]) (n := 10) (m := 1) ly (by simp) (by omega)
      obtain ⟨s1, e1, l1, q1⟩ := sadde (x := s0) (y := [35]) (n := (10 + 1)) (m := 1) l0 (by simp) (by omega)
      obtain ⟨s2, e2, l2, q2⟩ := sadde (x := s1) (y := [32]) (n := ((10 + 1) + 1)) (m := 1) l1 (by simp) (by omega)
      obtain ⟨s3, e3, l3, q3⟩ := sadde (x := s2) (y := (regT (a : Int))) (n := (((10 + 1) + 1) + 1)) (m := 12) l2 lA (by omega)
      obtain ⟨s4, e4, l4, q4⟩ := sadde (x := s3) (y := [44, 32]) (n := ((((10 + 1) + 1) + 1) + 12)) (m := 2) l3 (by simp) (by omega)
      obtain ⟨s5, e5, l5, q5⟩ := sadde (x := s4) (y := (regT (b : Int))) (n := (((((10 + 1) + 1) + 1) + 12) + 2)) (m := 12) l4 lB (by omega)
      obtain ⟨s6, e6, l6, q6⟩ := sadde (x := s5) (y := [44, 32]) (n := ((((((10 + 1) + 1) + 1) + 12) + 2) + 12)) (m := 2) l5 (by simp) (by omega)
      obtain ⟨s7, e7, l7, q7⟩ := sadde (x := s6) (y := (regT (c : Int))) (n := (((((((10 + 1) + 1) + 1) + 12) + 2) + 12) + 2)) (m := 12) l6 lC (by omega)
      have fin : (bif true then (bif decide ((0 : Int) < 2) then (opsL[(o : Int).toNat]?.getD []) ++ ((bif true then [39] else []) ++ ((bif true then [35] else []) ++ ([32] ++ (regT (a : Int) ++ ([44, 32] ++ (regT (b : Int) ++ ([44, 32] ++ (bif decide ((0 : Int) = 0) then regT (c : Int) else decI Imm)))))))) else bif decide ((0 : Int) = 2) then (bif true then [83, 84, 82] else [76, 68, 82]) ++ ((bif true then [66] else []) ++ ([32] ++ (regT (a : Int) ++ ([44, 32] ++ (regT (b : Int) ++ ([44, 32] ++ decI Imm)))))) else (bif true then [66, 76] else [66]) ++ ((condsL[(a : Int).toNat]?.getD []) ++ ([32] ++ (bif true then decI Imm else regT (c : Int) ++ ([44, 32] ++ decI Imm))))) else [63]) = s7 := by
        rw [e7, e6, e5, e4, e3, e2, e1, e0]
        simp [hy, hz, joinN]
      rw [fin]
      simp only [f_waferref5_Text, argEnv_cons, Nat.zero_add, argEnv_nil, List.length_nil, exL_seq, exL_ops, runOps_n, evalK_box, rd_t, get_eq, readV_d, spent_t, cells_agg, List.map_cons, List.map_nil, ones_cons, vone_d, one_i, one_b, ones_nil, Bool.and_self, boxN_t, opC_ok, put_box, killLp_cons, killV_d, killLp_nil, evalK_mov, rd_c, spent_c, put_d, runOps_nil, thenC_nrm, evalK_load, Nat.reduceEqDiff, get_ne, readV_box, loadV_lp, List.length_cons, Nat.reduceAdd, Nat.reduceLeDiff, boxV_A, List.drop_zero, List.take_succ_cons, List.take_zero, copy1_d, mkAgg_eq, allD_d, allD_nil, consD_some, aggV_some, okS_some, evalK_call, allLeave_cons, leaves_d, allLeave_nil, eCall_f, hr, callC_some, spentAll_cons, spentAll_nil, zm, put_tup, readV_tup, evalK_extract, extV_0, copy_d, extV_1, evalK_un, un_not, Bool.not_true, Option.map_some, exL_cond, condC_b, Bool.false_eq_true, ↓reduceIte, exL_skip, evalK_fieldAddr, faV_lp, put_lp, readV_lp, boxV_1, List.getElem?_cons_succ, List.getElem?_cons_zero, evalK_conv, wm, rI, rd_mv, takeV_d, spent_mv, Nat.add_zero, exL_block, evalK_bin, isC_t, isC_c, Bool.or_true, bin_eql, decide_true, evalK_buildSlice, dcells_s, List.reduceReplicate, Nat.reduceLT, fillD_cons, List.set_cons_zero, List.set_cons_succ, fillD_nil, wfs_cons, one_s, wf_one, wfs_nil, slO_some, put_osl, evalK_indexAddr, readV_osl, ix, put_cp, readV_cp, loadV_cp_s, q0, q1, rC, exL_opsD, runOpsD_n, opDC_same, putD_d, putC_some, q2, putD_lp, hasNat_nil, lpD_f, rA, Bool.or_self, q3, q4, rB, q5, q6, q7, runOpsD_nil, exL_ret, blockC_ret, thenC_ret, finC_ret, resultVs_cons, resultV_t, ownV_d, resultVs_nil, consO_some, leaveC_1]
      all_goals rfl
  by_cases f1 : F = 1
  · subst f1
    cases U <;> cases V
    · obtain ⟨s0, e0, l0, q0⟩ := sadde (x := y) (y := [32]) (n := 10) (m := 1) ly (by simp) (by omega)
      obtain ⟨s1, e1, l1, q1⟩ := sadde (x := s0) (y := (regT (a : Int))) (n := (10 + 1)) (m := 12) l0 lA (by omega)
      obtain ⟨s2, e2, l2, q2⟩ := sadde (x := s1) (y := [44, 32]) (n := ((10 + 1) + 12)) (m := 2) l1 (by simp) (by omega)
      obtain ⟨s3, e3, l3, q3⟩ := sadde (x := s2) (y := (regT (b : Int))) (n := (((10 + 1) + 12) + 2)) (m := 12) l2 lB (by omega)
      obtain ⟨s4, e4, l4, q4⟩ := sadde (x := s3) (y := [44, 32]) (n := ((((10 + 1) + 12) + 2) + 12)) (m := 2) l3 (by simp) (by omega)
      obtain ⟨s5, e5, l5, q5⟩ := sadde (x := s4) (y := (decI Imm)) (n := (((((10 + 1) + 12) + 2) + 12) + 2)) (m := 11) l4 lI (by omega)
      have fin : (bif true then (bif decide ((1 : Int) < 2) then (opsL[(o : Int).toNat]?.getD []) ++ ((bif false then [39] else []) ++ ((bif false then [35] else []) ++ ([32] ++ (regT (a : Int) ++ ([44, 32] ++ (regT (b : Int) ++ ([44, 32] ++ (bif decide ((1 : Int) = 0) then regT (c : Int) else decI Imm)))))))) else bif decide ((1 : Int) = 2) then (bif false then [83, 84, 82] else [76, 68, 82]) ++ ((bif false then [66] else []) ++ ([32] ++ (regT (a : Int) ++ ([44, 32] ++ (regT (b : Int) ++ ([44, 32] ++ decI Imm)))))) else (bif false then [66, 76] else [66]) ++ ((condsL[(a : Int).toNat]?.getD []) ++ ([32] ++ (bif false then decI Imm else regT (c : Int) ++ ([44, 32] ++ decI Imm))))) else [63]) = s5 := by
        rw [e5, e4, e3, e2, e1, e0]
        simp [hy, hz, joinN]
      rw [fin]
      simp only [f_waferref5_Text, argEnv_cons, Nat.zero_add, argEnv_nil, List.length_nil, exL_seq, exL_ops, runOps_n, evalK_box, rd_t, get_eq, readV_d, spent_t, cells_agg, List.map_cons, List.map_nil, ones_cons, vone_d, one_i, one_b, ones_nil, Bool.and_self, boxN_t, opC_ok, put_box, killLp_cons, killV_d, killLp_nil, evalK_mov, rd_c, spent_c, put_d, runOps_nil, thenC_nrm, evalK_load, Nat.reduceEqDiff, get_ne, readV_box, loadV_lp, List.length_cons, Nat.reduceAdd, Nat.reduceLeDiff, boxV_A, List.drop_zero, List.take_succ_cons, List.take_zero, copy1_d, mkAgg_eq, allD_d, allD_nil, consD_some, aggV_some, okS_some, evalK_call, allLeave_cons, leaves_d, allLeave_nil, eCall_f, hr, callC_some, spentAll_cons, spentAll_nil, zm, put_tup, readV_tup, evalK_extract, extV_0, copy_d, extV_1, evalK_un, un_not, Bool.not_true, Option.map_some, exL_cond, condC_b, Bool.false_eq_true, ↓reduceIte, exL_skip, evalK_fieldAddr, faV_lp, put_lp, readV_lp, boxV_1, List.getElem?_cons_succ, List.getElem?_cons_zero, evalK_conv, wm, rI, rd_mv, takeV_d, spent_mv, Nat.add_zero, exL_block, evalK_bin, isC_t, isC_c, Bool.or_true, bin_eql, Int.reduceEq, decide_false, decide_true, evalK_buildSlice, dcells_s, List.reduceReplicate, Nat.reduceLT, fillD_cons, List.set_cons_zero, List.set_cons_succ, fillD_nil, wfs_cons, one_s, wf_one, wfs_nil, slO_some, put_osl, evalK_indexAddr, readV_osl, ix, put_cp, readV_cp, loadV_cp_s, exL_opsD, runOpsD_n, opDC_same, putD_d, putC_some, q0, putD_lp, hasNat_nil, lpD_f, rA, Bool.or_self, q1, q2, rB, q3, q4, q5, runOpsD_nil, exL_ret, blockC_ret, thenC_ret, finC_ret, resultVs_cons, resultV_t, ownV_d, resultVs_nil, consO_some, leaveC_1]
      all_goals rfl
    · obtain ⟨s0, e0, l0, q0⟩ := sadde (x := y) (y := [35]) (n := 10) (m := 1) ly (by simp) (by omega)
      obtain ⟨s1, e1, l1, q1⟩ := sadde (x := s0) (y := [32]) (n := (10 + 1)) (m := 1) l0 (by simp) (by omega)
      obtain ⟨s2, e2, l2, q2⟩ := sadde (x := s1) (y := (regT (a : Int))) (n := ((10 + 1) + 1)) (m := 12) l1 lA (by omega)
      obtain ⟨s3, e3, l3, q3⟩ := sadde (x := s2) (y := [44, 32]) (n := (((10 + 1) + 1) + 12)) (m := 2) l2 (by simp) (by omega)
      obtain ⟨s4, e4, l4, q4⟩ := sadde (x := s3) (y := (regT (b : Int))) (n := ((((10 + 1) + 1) + 12) + 2)) (m := 12) l3 lB (by omega)
      obtain ⟨s5, e5, l5, q5⟩ := sadde (x := s4) (y := [44, 32]) (n := (((((10 + 1) + 1) + 12) + 2) + 12)) (m := 2) l4 (by simp) (by omega)
      obtain ⟨s6, e6, l6, q6⟩ := sadde (x := s5) (y := (decI Imm)) (n := ((((((10 + 1) + 1) + 12) + 2) + 12) + 2)) (m := 11) l5 lI (by omega)
      have fin : (bif true then (bif decide ((1 : Int) < 2) then (opsL[(o : Int).toNat]?.getD []) ++ ((bif false then [39] else []) ++ ((bif true then [35] else []) ++ ([32] ++ (regT (a : Int) ++ ([44, 32] ++ (regT (b : Int) ++ ([44, 32] ++ (bif decide ((1 : Int) = 0) then regT (c : Int) else decI Imm)))))))) else bif decide ((1 : Int) = 2) then (bif false then [83, 84, 82] else [76, 68, 82]) ++ ((bif true then [66] else []) ++ ([32] ++ (regT (a : Int) ++ ([44, 32] ++ (regT (b : Int) ++ ([44, 32] ++ decI Imm)))))) else (bif true then [66, 76] else [66]) ++ ((condsL[(a : Int).toNat]?.getD []) ++ ([32] ++ (bif false then decI Imm else regT (c : Int) ++ ([44, 32] ++ decI Imm))))) else [63]) = s6 := by
        rw [e6, e5, e4, e3, e2, e1, e0]
        simp [hy, hz, joinN]
      rw [fin]
      simp only [f_waferref5_Text, argEnv_cons, Nat.zero_add, argEnv_nil, List.length_nil, exL_seq, exL_ops, runOps_n, evalK_box, rd_t, get_eq, readV_d, spent_t, cells_agg, List.map_cons, List.map_nil, ones_cons, vone_d, one_i, one_b, ones_nil, Bool.and_self, boxN_t, opC_ok, put_box, killLp_cons, killV_d, killLp_nil, evalK_mov, rd_c, spent_c, put_d, runOps_nil, thenC_nrm, evalK_load, Nat.reduceEqDiff, get_ne, readV_box, loadV_lp, List.length_cons, Nat.reduceAdd, Nat.reduceLeDiff, boxV_A, List.drop_zero, List.take_succ_cons, List.take_zero, copy1_d, mkAgg_eq, allD_d, allD_nil, consD_some, aggV_some, okS_some, evalK_call, allLeave_cons, leaves_d, allLeave_nil, eCall_f, hr, callC_some, spentAll_cons, spentAll_nil, zm, put_tup, readV_tup, evalK_extract, extV_0, copy_d, extV_1, evalK_un, un_not, Bool.not_true, Option.map_some, exL_cond, condC_b, Bool.false_eq_true, ↓reduceIte, exL_skip, evalK_fieldAddr, faV_lp, put_lp, readV_lp, boxV_1, List.getElem?_cons_succ, List.getElem?_cons_zero, evalK_conv, wm, rI, rd_mv, takeV_d, spent_mv, Nat.add_zero, exL_block, evalK_bin, isC_t, isC_c, Bool.or_true, bin_eql, Int.reduceEq, decide_false, decide_true, evalK_buildSlice, dcells_s, List.reduceReplicate, Nat.reduceLT, fillD_cons, List.set_cons_zero, List.set_cons_succ, fillD_nil, wfs_cons, one_s, wf_one, wfs_nil, slO_some, put_osl, evalK_indexAddr, readV_osl, ix, put_cp, readV_cp, loadV_cp_s, q0, exL_opsD, runOpsD_n, opDC_same, putD_d, putC_some, q1, putD_lp, hasNat_nil, lpD_f, rA, Bool.or_self, q2, q3, rB, q4, q5, q6, runOpsD_nil, exL_ret, blockC_ret, thenC_ret, finC_ret, resultVs_cons, resultV_t, ownV_d, resultVs_nil, consO_some, leaveC_1]
      all_goals rfl
    · obtain ⟨s0, e0, l0, q0⟩ := sadde (x := y) (y := [39]) (n := 10) (m := 1) ly (by simp) (by omega)
      obtain ⟨s1, e1, l1, q1⟩ := sadde (x := s0) (y := [32]) (n := (10 + 1)) (m := 1) l0 (by simp) (by omega)
      obtain ⟨s2, e2, l2, q2⟩ := sadde (x := s1) (y := (regT (a : Int))) (n := ((10 + 1) + 1)) (m := 12) l1 lA (by omega)
      obtain ⟨s3, e3, l3, q3⟩ := sadde (x := s2) (y := [44, 32]) (n := (((10 + 1) + 1) + 12)) (m := 2) l2 (by simp) (by omega)
      obtain ⟨s4, e4, l4, q4⟩ := sadde (x := s3) (y := (regT (b : Int))) (n := ((((10 + 1) + 1) + 12) + 2)) (m := 12) l3 lB (by omega)
      obtain ⟨s5, e5, l5, q5⟩ := sadde (x := s4) (y := [44, 32]) (n := (((((10 + 1) + 1) + 12) + 2) + 12)) (m := 2) l4 (by simp) (by omega)
      obtain ⟨s6, e6, l6, q6⟩ := sadde (x := s5) (y := (decI Imm)) (n := ((((((10 + 1) + 1) + 12) + 2) + 12) + 2)) (m := 11) l5 lI (by omega)
      have fin : (bif true then (bif decide ((1 : Int) < 2) then (opsL[(o : Int).toNat]?.getD []) ++ ((bif true then [39] else []) ++ ((bif false then [35] else []) ++ ([32] ++ (regT (a : Int) ++ ([44, 32] ++ (regT (b : Int) ++ ([44, 32] ++ (bif decide ((1 : Int) = 0) then regT (c : Int) else decI Imm)))))))) else bif decide ((1 : Int) = 2) then (bif true then [83, 84, 82] else [76, 68, 82]) ++ ((bif false then [66] else []) ++ ([32] ++ (regT (a : Int) ++ ([44, 32] ++ (regT (b : Int) ++ ([44, 32] ++ decI Imm)))))) else (bif false then [66, 76] else [66]) ++ ((condsL[(a : Int).toNat]?.getD []) ++ ([32] ++ (bif true then decI Imm else regT (c : Int) ++ ([44, 32] ++ decI Imm))))) else [63]) = s6 := by
        rw [e6, e5, e4, e3, e2, e1, e0]
        simp [hy, hz, joinN]
      rw [fin]
      simp only [f_waferref5_Text, argEnv_cons, Nat.zero_add, argEnv_nil, List.length_nil, exL_seq, exL_ops, runOps_n, evalK_box, rd_t, get_eq, readV_d, spent_t, cells_agg, List.map_cons, List.map_nil, ones_cons, vone_d, one_i, one_b, ones_nil, Bool.and_self, boxN_t, opC_ok, put_box, killLp_cons, killV_d, killLp_nil, evalK_mov, rd_c, spent_c, put_d, runOps_nil, thenC_nrm, evalK_load, Nat.reduceEqDiff, get_ne, readV_box, loadV_lp, List.length_cons, Nat.reduceAdd, Nat.reduceLeDiff, boxV_A, List.drop_zero, List.take_succ_cons, List.take_zero, copy1_d, mkAgg_eq, allD_d, allD_nil, consD_some, aggV_some, okS_some, evalK_call, allLeave_cons, leaves_d, allLeave_nil, eCall_f, hr, callC_some, spentAll_cons, spentAll_nil, zm, put_tup, readV_tup, evalK_extract, extV_0, copy_d, extV_1, evalK_un, un_not, Bool.not_true, Option.map_some, exL_cond, condC_b, Bool.false_eq_true, ↓reduceIte, exL_skip, evalK_fieldAddr, faV_lp, put_lp, readV_lp, boxV_1, List.getElem?_cons_succ, List.getElem?_cons_zero, evalK_conv, wm, rI, rd_mv, takeV_d, spent_mv, Nat.add_zero, exL_block, evalK_bin, isC_t, isC_c, Bool.or_true, bin_eql, Int.reduceEq, decide_false, decide_true, evalK_buildSlice, dcells_s, List.reduceReplicate, Nat.reduceLT, fillD_cons, List.set_cons_zero, List.set_cons_succ, fillD_nil, wfs_cons, one_s, wf_one, wfs_nil, slO_some, put_osl, evalK_indexAddr, readV_osl, ix, put_cp, readV_cp, loadV_cp_s, q0, exL_opsD, runOpsD_n, opDC_same, putD_d, putC_some, q1, putD_lp, hasNat_nil, lpD_f, rA, Bool.or_self, q2, q3, rB, q4, q5, q6, runOpsD_nil, exL_ret, blockC_ret, thenC_ret, finC_ret, resultVs_cons, resultV_t, ownV_d, resultVs_nil, consO_some, leaveC_1]
      all_goals rfl
    · obtain ⟨s0, e0, l0, q0⟩ := sadde (x := y) (y := [39]) (n := 10) (m := 1) ly (by simp) (by omega)
      obtain ⟨s1, e1, l1, q1⟩ := sadde (x := s0) (y := [35]) (n := (10 + 1)) (m := 1) l0 (by simp) (by omega)
      obtain ⟨s2, e2, l2, q2⟩ := sadde (x := s1) (y := [32]) (n := ((10 + 1) + 1)) (m := 1) l1 (by simp) (by omega)
      obtain ⟨s3, e3, l3, q3⟩ := sadde (x := s2) (y := (regT (a : Int))) (n := (((10 + 1) + 1) + 1)) (m := 12) l2 lA (by omega)
      obtain ⟨s4, e4, l4, q4⟩ := sadde (x := s3) (y := [44, 32]) (n := ((((10 + 1) + 1) + 1) + 12)) (m := 2) l3 (by simp) (by omega)
      obtain ⟨s5, e5, l5, q5⟩ := sadde (x := s4) (y := (regT (b : Int))) (n := (((((10 + 1) + 1) + 1) + 12) + 2)) (m := 12) l4 lB (by omega)
      obtain ⟨s6, e6, l6, q6⟩ := sadde (x := s5) (y := [44, 32]) (n := ((((((10 + 1) + 1) + 1) + 12) + 2) + 12)) (m := 2) l5 (by simp) (by omega)
      obtain ⟨s7, e7, l7, q7⟩ := sadde (x := s6) (y := (decI Imm)) (n := (((((((10 + 1) + 1) + 1) + 12) + 2) + 12) + 2)) (m := 11) l6 lI (by omega)
      have fin : (bif true then (bif decide ((1 : Int) < 2) then (opsL[(o : Int).toNat]?.getD []) ++ ((bif true then [39] else []) ++ ((bif true then [35] else []) ++ ([32] ++ (regT (a : Int) ++ ([44, 32] ++ (regT (b : Int) ++ ([44, 32] ++ (bif decide ((1 : Int) = 0) then regT (c : Int) else decI Imm)))))))) else bif decide ((1 : Int) = 2) then (bif true then [83, 84, 82] else [76, 68, 82]) ++ ((bif true then [66] else []) ++ ([32] ++ (regT (a : Int) ++ ([44, 32] ++ (regT (b : Int) ++ ([44, 32] ++ decI Imm)))))) else (bif true then [66, 76] else [66]) ++ ((condsL[(a : Int).toNat]?.getD []) ++ ([32] ++ (bif true then decI Imm else regT (c : Int) ++ ([44, 32] ++ decI Imm))))) else [63]) = s7 := by
        rw [e7, e6, e5, e4, e3, e2, e1, e0]
        simp [hy, hz, joinN]
      rw [fin]
      simp only [f_waferref5_Text, argEnv_cons, Nat.zero_add, argEnv_nil, List.length_nil, exL_seq, exL_ops, runOps_n, evalK_box, rd_t, get_eq, readV_d, spent_t, cells_agg, List.map_cons, List.map_nil, ones_cons, vone_d, one_i, one_b, ones_nil, Bool.and_self, boxN_t, opC_ok, put_box, killLp_cons, killV_d, killLp_nil, evalK_mov, rd_c, spent_c, put_d, runOps_nil, thenC_nrm, evalK_load, Nat.reduceEqDiff, get_ne, readV_box, loadV_lp, List.length_cons, Nat.reduceAdd, Nat.reduceLeDiff, boxV_A, List.drop_zero, List.take_succ_cons, List.take_zero, copy1_d, mkAgg_eq, allD_d, allD_nil, consD_some, aggV_some, okS_some, evalK_call, allLeave_cons, leaves_d, allLeave_nil, eCall_f, hr, callC_some, spentAll_cons, spentAll_nil, zm, put_tup, readV_tup, evalK_extract, extV_0, copy_d, extV_1, evalK_un, un_not, Bool.not_true, Option.map_some, exL_cond, condC_b, Bool.false_eq_true, ↓reduceIte, exL_skip, evalK_fieldAddr, faV_lp, put_lp, readV_lp, boxV_1, List.getElem?_cons_succ, List.getElem?_cons_zero, evalK_conv, wm, rI, rd_mv, takeV_d, spent_mv, Nat.add_zero, exL_block, evalK_bin, isC_t, isC_c, Bool.or_true, bin_eql, Int.reduceEq, decide_false, decide_true, evalK_buildSlice, dcells_s, List.reduceReplicate, Nat.reduceLT, fillD_cons, List.set_cons_zero, List.set_cons_succ, fillD_nil, wfs_cons, one_s, wf_one, wfs_nil, slO_some, put_osl, evalK_indexAddr, readV_osl, ix, put_cp, readV_cp, loadV_cp_s, q0, q1, exL_opsD, runOpsD_n, opDC_same, putD_d, putC_some, q2, putD_lp, hasNat_nil, lpD_f, rA, Bool.or_self, q3, q4, rB, q5, q6, q7, runOpsD_nil, exL_ret, blockC_ret, thenC_ret, finC_ret, resultVs_cons, resultV_t, ownV_d, resultVs_nil, consO_some, leaveC_1]
      all_goals rfl
  by_cases f2 : F = 2
  · subst f2
    cases U <;> cases V
    · obtain ⟨s0, e0, l0, q0⟩ := sadde (x := [76, 68, 82]) (y := [32]) (n := 3) (m := 1) (by simp) (by simp) (by omega)
      obtain ⟨s1, e1, l1, q1⟩ := sadde (x := s0) (y := (regT (a : Int))) (n := (3 + 1)) (m := 12) l0 lA (by omega)
      obtain ⟨s2, e2, l2, q2⟩ := sadde (x := s1) (y := [44, 32]) (n := ((3 + 1) + 12)) (m := 2) l1 (by simp) (by omega)
      obtain ⟨s3, e3, l3, q3⟩ := sadde (x := s2) (y := (regT (b : Int))) (n := (((3 + 1) + 12) + 2)) (m := 12) l2 lB (by omega)
      obtain ⟨s4, e4, l4, q4⟩ := sadde (x := s3) (y := [44, 32]) (n := ((((3 + 1) + 12) + 2) + 12)) (m := 2) l3 (by simp) (by omega)
      obtain ⟨s5, e5, l5, q5⟩ := sadde (x := s4) (y := (decI Imm)) (n := (((((3 + 1) + 12) + 2) + 12) + 2)) (m := 11) l4 lI (by omega)
      have fin : (bif true then (bif decide ((2 : Int) < 2) then (opsL[(o : Int).toNat]?.getD []) ++ ((bif false then [39] else []) ++ ((bif false then [35] else []) ++ ([32] ++ (regT (a : Int) ++ ([44, 32] ++ (regT (b : Int) ++ ([44, 32] ++ (bif decide ((2 : Int) = 0) then regT (c : Int) else decI Imm)))))))) else bif decide ((2 : Int) = 2) then (bif false then [83, 84, 82] else [76, 68, 82]) ++ ((bif false then [66] else []) ++ ([32] ++ (regT (a : Int) ++ ([44, 32] ++ (regT (b : Int) ++ ([44, 32] ++ decI Imm)))))) else (bif false then [66, 76] else [66]) ++ ((condsL[(a : Int).toNat]?.getD []) ++ ([32] ++ (bif false then decI Imm else regT (c : Int) ++ ([44, 32] ++ decI Imm))))) else [63]) = s5 := by
        rw [e5, e4, e3, e2, e1, e0]
        simp [hy, hz, joinN]
      rw [fin]
      simp only [f_waferref5_Text, argEnv_cons, Nat.zero_add, argEnv_nil, List.length_nil, exL_seq, exL_ops, runOps_n, evalK_box, rd_t, get_eq, readV_d, spent_t, cells_agg, List.map_cons, List.map_nil, ones_cons, vone_d, one_i, one_b, ones_nil, Bool.and_self, boxN_t, opC_ok, put_box, killLp_cons, killV_d, killLp_nil, evalK_mov, rd_c, spent_c, put_d, runOps_nil, thenC_nrm, evalK_load, Nat.reduceEqDiff, get_ne, readV_box, loadV_lp, List.length_cons, Nat.reduceAdd, Nat.reduceLeDiff, boxV_A, List.drop_zero, List.take_succ_cons, List.take_zero, copy1_d, mkAgg_eq, allD_d, allD_nil, consD_some, aggV_some, okS_some, evalK_call, allLeave_cons, leaves_d, allLeave_nil, eCall_f, hr, callC_some, spentAll_cons, spentAll_nil, zm, put_tup, readV_tup, evalK_extract, extV_0, copy_d, extV_1, evalK_un, un_not, Bool.not_true, Option.map_some, exL_cond, condC_b, Bool.false_eq_true, ↓reduceIte, exL_skip, evalK_fieldAddr, faV_lp, put_lp, readV_lp, boxV_1, List.getElem?_cons_succ, List.getElem?_cons_zero, evalK_conv, wm, rI, rd_mv, takeV_d, spent_mv, Nat.add_zero, exL_block, evalK_bin, isC_t, isC_c, Bool.or_true, bin_eql, Int.reduceEq, decide_false, decide_true, exL_opsD, runOpsD_n, opDC_same, putD_d, putC_some, q0, putD_lp, hasNat_nil, lpD_f, rA, Bool.or_self, q1, q2, rB, q3, q4, q5, runOpsD_nil, exL_ret, blockC_ret, thenC_ret, finC_ret, resultVs_cons, resultV_t, ownV_d, resultVs_nil, consO_some, leaveC_1]
      all_goals rfl
    · obtain ⟨s0, e0, l0, q0⟩ := sadde (x := [76, 68, 82]) (y := [66]) (n := 3) (m := 1) (by simp) (by simp) (by omega)
      obtain ⟨s1, e1, l1, q1⟩ := sadde (x := s0) (y := [32]) (n := (3 + 1)) (m := 1) l0 (by simp) (by omega)
      obtain ⟨s2, e2, l2, q2⟩ := sadde (x := s1) (y := (regT (a : Int))) (n := ((3 + 1) + 1)) (m := 12) l1 lA (by omega)
      obtain ⟨s3, e3, l3, q3⟩ := sadde (x := s2) (y := [44, 32]) (n := (((3 + 1) + 1) + 12)) (m := 2) l2 (by simp) (by omega)
      obtain ⟨s4, e4, l4, q4⟩ := sadde (x := s3) (y := (regT (b : Int))) (n := ((((3 + 1) + 1) + 12) + 2)) (m := 12) l3 lB (by omega)
      obtain ⟨s5, e5, l5, q5⟩ := sadde (x := s4) (y := [44, 32]) (n := (((((3 + 1) + 1) + 12) + 2) + 12)) (m := 2) l4 (by simp) (by omega)
      obtain ⟨s6, e6, l6, q6⟩ := sadde (x := s5) (y := (decI Imm)) (n := ((((((3 + 1) + 1) + 12) + 2) + 12) + 2)) (m := 11) l5 lI (by omega)
      have fin : (bif true then (bif decide ((2 : Int) < 2) then (opsL[(o : Int).toNat]?.getD []) ++ ((bif false then [39] else []) ++ ((bif true then [35] else []) ++ ([32] ++ (regT (a : Int) ++ ([44, 32] ++ (regT (b : Int) ++ ([44, 32] ++ (bif decide ((2 : Int) = 0) then regT (c : Int) else decI Imm)))))))) else bif decide ((2 : Int) = 2) then (bif false then [83, 84, 82] else [76, 68, 82]) ++ ((bif true then [66] else []) ++ ([32] ++ (regT (a : Int) ++ ([44, 32] ++ (regT (b : Int) ++ ([44, 32] ++ decI Imm)))))) else (bif true then [66, 76] else [66]) ++ ((condsL[(a : Int).toNat]?.getD []) ++ ([32] ++ (bif false then decI Imm else regT (c : Int) ++ ([44, 32] ++ decI Imm))))) else [63]) = s6 := by
        rw [e6, e5, e4, e3, e2, e1, e0]
        simp [hy, hz, joinN]
      rw [fin]
      simp only [f_waferref5_Text, argEnv_cons, Nat.zero_add, argEnv_nil, List.length_nil, exL_seq, exL_ops, runOps_n, evalK_box, rd_t, get_eq, readV_d, spent_t, cells_agg, List.map_cons, List.map_nil, ones_cons, vone_d, one_i, one_b, ones_nil, Bool.and_self, boxN_t, opC_ok, put_box, killLp_cons, killV_d, killLp_nil, evalK_mov, rd_c, spent_c, put_d, runOps_nil, thenC_nrm, evalK_load, Nat.reduceEqDiff, get_ne, readV_box, loadV_lp, List.length_cons, Nat.reduceAdd, Nat.reduceLeDiff, boxV_A, List.drop_zero, List.take_succ_cons, List.take_zero, copy1_d, mkAgg_eq, allD_d, allD_nil, consD_some, aggV_some, okS_some, evalK_call, allLeave_cons, leaves_d, allLeave_nil, eCall_f, hr, callC_some, spentAll_cons, spentAll_nil, zm, put_tup, readV_tup, evalK_extract, extV_0, copy_d, extV_1, evalK_un, un_not, Bool.not_true, Option.map_some, exL_cond, condC_b, Bool.false_eq_true, ↓reduceIte, exL_skip, evalK_fieldAddr, faV_lp, put_lp, readV_lp, boxV_1, List.getElem?_cons_succ, List.getElem?_cons_zero, evalK_conv, wm, rI, rd_mv, takeV_d, spent_mv, Nat.add_zero, exL_block, evalK_bin, isC_t, isC_c, Bool.or_true, bin_eql, Int.reduceEq, decide_false, decide_true, q0, exL_opsD, runOpsD_n, opDC_same, putD_d, putC_some, q1, putD_lp, hasNat_nil, lpD_f, rA, Bool.or_self, q2, q3, rB, q4, q5, q6, runOpsD_nil, exL_ret, blockC_ret, thenC_ret, finC_ret, resultVs_cons, resultV_t, ownV_d, resultVs_nil, consO_some, leaveC_1]
      all_goals rfl
    · obtain ⟨s0, e0, l0, q0⟩ := sadde (x := [83, 84, 82]) (y := [32]) (n := 3) (m := 1) (by simp) (by simp) (by omega)
      obtain ⟨s1, e1, l1, q1⟩ := sadde (x := s0) (y := (regT (a : Int))) (n := (3 + 1)) (m := 12) l0 lA (by omega)
      obtain ⟨s2, e2, l2, q2⟩ := sadde (x := s1) (y := [44, 32]) (n := ((3 + 1) + 12)) (m := 2) l1 (by simp) (by omega)
      obtain ⟨s3, e3, l3, q3⟩ := sadde (x := s2) (y := (regT (b : Int))) (n := (((3 + 1) + 12) + 2)) (m := 12) l2 lB (by omega)
      obtain ⟨s4, e4, l4, q4⟩ := sadde (x := s3) (y := [44, 32]) (n := ((((3 + 1) + 12) + 2) + 12)) (m := 2) l3 (by simp) (by omega)
      obtain ⟨s5, e5, l5, q5⟩ := sadde (x := s4) (y := (decI Imm)) (n := (((((3 + 1) + 12) + 2) + 12) + 2)) (m := 11) l4 lI (by omega)
      have fin : (bif true then (bif decide ((2 : Int) < 2) then (opsL[(o : Int).toNat]?.getD []) ++ ((bif true then [39] else []) ++ ((bif false then [35] else []) ++ ([32] ++ (regT (a : Int) ++ ([44, 32] ++ (regT (b : Int) ++ ([44, 32] ++ (bif decide ((2 : Int) = 0) then regT (c : Int) else decI Imm)))))))) else bif decide ((2 : Int) = 2) then (bif true then [83, 84, 82] else [76, 68, 82]) ++ ((bif false then [66] else []) ++ ([32] ++ (regT (a : Int) ++ ([44, 32] ++ (regT (b : Int) ++ ([44, 32] ++ decI Imm)))))) else (bif false then [66, 76] else [66]) ++ ((condsL[(a : Int).toNat]?.getD []) ++ ([32] ++ (bif true then decI Imm else regT (c : Int) ++ ([44, 32] ++ decI Imm))))) else [63]) = s5 := by
        rw [e5, e4, e3, e2, e1, e0]
        simp [hy, hz, joinN]
      rw [fin]
      simp only [f_waferref5_Text, argEnv_cons, Nat.zero_add, argEnv_nil, List.length_nil, exL_seq, exL_ops, runOps_n, evalK_box, rd_t, get_eq, readV_d, spent_t, cells_agg, List.map_cons, List.map_nil, ones_cons, vone_d, one_i, one_b, ones_nil, Bool.and_self, boxN_t, opC_ok, put_box, killLp_cons, killV_d, killLp_nil, evalK_mov, rd_c, spent_c, put_d, runOps_nil, thenC_nrm, evalK_load, Nat.reduceEqDiff, get_ne, readV_box, loadV_lp, List.length_cons, Nat.reduceAdd, Nat.reduceLeDiff, boxV_A, List.drop_zero, List.take_succ_cons, List.take_zero, copy1_d, mkAgg_eq, allD_d, allD_nil, consD_some, aggV_some, okS_some, evalK_call, allLeave_cons, leaves_d, allLeave_nil, eCall_f, hr, callC_some, spentAll_cons, spentAll_nil, zm, put_tup, readV_tup, evalK_extract, extV_0, copy_d, extV_1, evalK_un, un_not, Bool.not_true, Option.map_some, exL_cond, condC_b, Bool.false_eq_true, ↓reduceIte, exL_skip, evalK_fieldAddr, faV_lp, put_lp, readV_lp, boxV_1, List.getElem?_cons_succ, List.getElem?_cons_zero, evalK_conv, wm, rI, rd_mv, takeV_d, spent_mv, Nat.add_zero, exL_block, evalK_bin, isC_t, isC_c, Bool.or_true, bin_eql, Int.reduceEq, decide_false, decide_true, exL_opsD, runOpsD_n, opDC_same, putD_d, putC_some, q0, putD_lp, hasNat_nil, lpD_f, rA, Bool.or_self, q1, q2, rB, q3, q4, q5, runOpsD_nil, exL_ret, blockC_ret, thenC_ret, finC_ret, resultVs_cons, resultV_t, ownV_d, resultVs_nil, consO_some, leaveC_1]
      all_goals rfl
    · obtain ⟨s0, e0, l0, q0⟩ := sadde (x := [83, 84, 82]) (y := [66]) (n := 3) (m := 1) (by simp) (by simp) (by omega)
      obtain ⟨s1, e1, l1, q1⟩ := sadde (x := s0) (y := [32]) (n := (3 + 1)) (m := 1) l0 (by simp) (by omega)
      obtain ⟨s2, e2, l2, q2⟩ := sadde (x := s1) (y := (regT (a : Int))) (n := ((3 + 1) + 1)) (m := 12) l1 lA (by omega)
      obtain ⟨s3, e3, l3, q3⟩ := sadde (x := s2) (y := [44, 32]) (n := (((3 + 1) + 1) + 12)) (m := 2) l2 (by simp) (by omega)
      obtain ⟨s4, e4, l4, q4⟩ := sadde (x := s3) (y := (regT (b : Int))) (n := ((((3 + 1) + 1) + 12) + 2)) (m := 12) l3 lB (by omega)
      obtain ⟨s5, e5, l5, q5⟩ := sadde (x := s4) (y := [44, 32]) (n := (((((3 + 1) + 1) + 12) + 2) + 12)) (m := 2) l4 (by simp) (by omega)
      obtain ⟨s6, e6, l6, q6⟩ := sadde (x := s5) (y := (decI Imm)) (n := ((((((3 + 1) + 1) + 12) + 2) + 12) + 2)) (m := 11) l5 lI (by omega)
      have fin : (bif true then (bif decide ((2 : Int) < 2) then (opsL[(o : Int).toNat]?.getD []) ++ ((bif true then [39] else []) ++ ((bif true then [35] else []) ++ ([32] ++ (regT (a : Int) ++ ([44, 32] ++ (regT (b : Int) ++ ([44, 32] ++ (bif decide ((2 : Int) = 0) then regT (c : Int) else decI Imm)))))))) else bif decide ((2 : Int) = 2) then (bif true then [83, 84, 82] else [76, 68, 82]) ++ ((bif true then [66] else []) ++ ([32] ++ (regT (a : Int) ++ ([44, 32] ++ (regT (b : Int) ++ ([44, 32] ++ decI Imm)))))) else (bif true then [66, 76] else [66]) ++ ((condsL[(a : Int).toNat]?.getD []) ++ ([32] ++ (bif true then decI Imm else regT (c : Int) ++ ([44, 32] ++ decI Imm))))) else [63]) = s6 := by
        rw [e6, e5, e4, e3, e2, e1, e0]
        simp [hy, hz, joinN]
      rw [fin]
      simp only [f_waferref5_Text, argEnv_cons, Nat.zero_add, argEnv_nil, List.length_nil, exL_seq, exL_ops, runOps_n, evalK_box, rd_t, get_eq, readV_d, spent_t, cells_agg, List.map_cons, List.map_nil, ones_cons, vone_d, one_i, one_b, ones_nil, Bool.and_self, boxN_t, opC_ok, put_box, killLp_cons, killV_d, killLp_nil, evalK_mov, rd_c, spent_c, put_d, runOps_nil, thenC_nrm, evalK_load, Nat.reduceEqDiff, get_ne, readV_box, loadV_lp, List.length_cons, Nat.reduceAdd, Nat.reduceLeDiff, boxV_A, List.drop_zero, List.take_succ_cons, List.take_zero, copy1_d, mkAgg_eq, allD_d, allD_nil, consD_some, aggV_some, okS_some, evalK_call, allLeave_cons, leaves_d, allLeave_nil, eCall_f, hr, callC_some, spentAll_cons, spentAll_nil, zm, put_tup, readV_tup, evalK_extract, extV_0, copy_d, extV_1, evalK_un, un_not, Bool.not_true, Option.map_some, exL_cond, condC_b, Bool.false_eq_true, ↓reduceIte, exL_skip, evalK_fieldAddr, faV_lp, put_lp, readV_lp, boxV_1, List.getElem?_cons_succ, List.getElem?_cons_zero, evalK_conv, wm, rI, rd_mv, takeV_d, spent_mv, Nat.add_zero, exL_block, evalK_bin, isC_t, isC_c, Bool.or_true, bin_eql, Int.reduceEq, decide_false, decide_true, q0, exL_opsD, runOpsD_n, opDC_same, putD_d, putC_some, q1, putD_lp, hasNat_nil, lpD_f, rA, Bool.or_self, q2, q3, rB, q4, q5, q6, runOpsD_nil, exL_ret, blockC_ret, thenC_ret, finC_ret, resultVs_cons, resultV_t, ownV_d, resultVs_nil, consO_some, leaveC_1]
      all_goals rfl
  by_cases f3 : F = 3
  · subst f3
    cases U <;> cases V
    · obtain ⟨s0, e0, l0, q0⟩ := sadde (x := [66]) (y := z) (n := 1) (m := 10) (by simp) lz (by omega)
      obtain ⟨s1, e1, l1, q1⟩ := sadde (x := s0) (y := [32]) (n := (1 + 10)) (m := 1) l0 (by simp) (by omega)
      obtain ⟨s2, e2, l2, q2⟩ := sadde (x := s1) (y := (regT (c : Int))) (n := ((1 + 10) + 1)) (m := 12) l1 lC (by omega)
      obtain ⟨s3, e3, l3, q3⟩ := sadde (x := s2) (y := [44, 32]) (n := (((1 + 10) + 1) + 12)) (m := 2) l2 (by simp) (by omega)
      obtain ⟨s4, e4, l4, q4⟩ := sadde (x := s3) (y := (decI Imm)) (n := ((((1 + 10) + 1) + 12) + 2)) (m := 11) l3 lI (by omega)
      have fin : (bif true then (bif decide ((3 : Int) < 2) then (opsL[(o : Int).toNat]?.getD []) ++ ((bif false then [39] else []) ++ ((bif false then [35] else []) ++ ([32] ++ (regT (a : Int) ++ ([44, 32] ++ (regT (b : Int) ++ ([44, 32] ++ (bif decide ((3 : Int) = 0) then regT (c : Int) else decI Imm)))))))) else bif decide ((3 : Int) = 2) then (bif false then [83, 84, 82] else [76, 68, 82]) ++ ((bif false then [66] else []) ++ ([32] ++ (regT (a : Int) ++ ([44, 32] ++ (regT (b : Int) ++ ([44, 32] ++ decI Imm)))))) else (bif false then [66, 76] else [66]) ++ ((condsL[(a : Int).toNat]?.getD []) ++ ([32] ++ (bif false then decI Imm else regT (c : Int) ++ ([44, 32] ++ decI Imm))))) else [63]) = s4 := by
        rw [e4, e3, e2, e1, e0]
        simp [hy, hz, joinN]
      rw [fin]
      simp only [f_waferref5_Text, argEnv_cons, Nat.zero_add, argEnv_nil, List.length_nil, exL_seq, exL_ops, runOps_n, evalK_box, rd_t, get_eq, readV_d, spent_t, cells_agg, List.map_cons, List.map_nil, ones_cons, vone_d, one_i, one_b, ones_nil, Bool.and_self, boxN_t, opC_ok, put_box, killLp_cons, killV_d, killLp_nil, evalK_mov, rd_c, spent_c, put_d, runOps_nil, thenC_nrm, evalK_load, Nat.reduceEqDiff, get_ne, readV_box, loadV_lp, List.length_cons, Nat.reduceAdd, Nat.reduceLeDiff, boxV_A, List.drop_zero, List.take_succ_cons, List.take_zero, copy1_d, mkAgg_eq, allD_d, allD_nil, consD_some, aggV_some, okS_some, evalK_call, allLeave_cons, leaves_d, allLeave_nil, eCall_f, hr, callC_some, spentAll_cons, spentAll_nil, zm, put_tup, readV_tup, evalK_extract, extV_0, copy_d, extV_1, evalK_un, un_not, Bool.not_true, Option.map_some, exL_cond, condC_b, Bool.false_eq_true, ↓reduceIte, exL_skip, evalK_fieldAddr, faV_lp, put_lp, readV_lp, boxV_1, List.getElem?_cons_succ, List.getElem?_cons_zero, evalK_conv, wm, rI, rd_mv, takeV_d, spent_mv, Nat.add_zero, exL_block, evalK_bin, isC_t, isC_c, Bool.or_true, bin_eql, Int.reduceEq, decide_false, blockC_nrm, restrict_cons, keepV_box, keepV_d, restrict_nil, evalK_buildSlice, dcells_s, List.reduceReplicate, Nat.reduceLT, fillD_cons, List.set_cons_zero, List.set_cons_succ, fillD_nil, wfs_cons, one_s, wf_one, wfs_nil, slO_some, put_osl, evalK_indexAddr, readV_osl, iz, put_cp, readV_cp, loadV_cp_s, Bool.or_self, q0, q1, rC, q2, q3, q4, exL_ret, finC_ret, resultVs_cons, resultV_t, ownV_d, resultVs_nil, consO_some, leaveC_1]
      all_goals rfl
    · obtain ⟨s0, e0, l0, q0⟩ := sadde (x := [66, 76]) (y := z) (n := 2) (m := 10) (by simp) lz (by omega)
      obtain ⟨s1, e1, l1, q1⟩ := sadde (x := s0) (y := [32]) (n := (2 + 10)) (m := 1) l0 (by simp) (by omega)
      obtain ⟨s2, e2, l2, q2⟩ := sadde (x := s1) (y := (regT (c : Int))) (n := ((2 + 10) + 1)) (m := 12) l1 lC (by omega)
      obtain ⟨s3, e3, l3, q3⟩ := sadde (x := s2) (y := [44, 32]) (n := (((2 + 10) + 1) + 12)) (m := 2) l2 (by simp) (by omega)
      obtain ⟨s4, e4, l4, q4⟩ := sadde (x := s3) (y := (decI Imm)) (n := ((((2 + 10) + 1) + 12) + 2)) (m := 11) l3 lI (by omega)
      have fin : (bif true then (bif decide ((3 : Int) < 2) then (opsL[(o : Int).toNat]?.getD []) ++ ((bif false then [39] else []) ++ ((bif true then [35] else []) ++ ([32] ++ (regT (a : Int) ++ ([44, 32] ++ (regT (b : Int) ++ ([44, 32] ++ (bif decide ((3 : Int) = 0) then regT (c : Int) else decI Imm)))))))) else bif decide ((3 : Int) = 2) then (bif false then [83, 84, 82] else [76, 68, 82]) ++ ((bif true then [66] else []) ++ ([32] ++ (regT (a : Int) ++ ([44, 32] ++ (regT (b : Int) ++ ([44, 32] ++ decI Imm)))))) else (bif true then [66, 76] else [66]) ++ ((condsL[(a : Int).toNat]?.getD []) ++ ([32] ++ (bif false then decI Imm else regT (c : Int) ++ ([44, 32] ++ decI Imm))))) else [63]) = s4 := by
        rw [e4, e3, e2, e1, e0]
        simp [hy, hz, joinN]
      rw [fin]
      simp only [f_waferref5_Text, argEnv_cons, Nat.zero_add, argEnv_nil, List.length_nil, exL_seq, exL_ops, runOps_n, evalK_box, rd_t, get_eq, readV_d, spent_t, cells_agg, List.map_cons, List.map_nil, ones_cons, vone_d, one_i, one_b, ones_nil, Bool.and_self, boxN_t, opC_ok, put_box, killLp_cons, killV_d, killLp_nil, evalK_mov, rd_c, spent_c, put_d, runOps_nil, thenC_nrm, evalK_load, Nat.reduceEqDiff, get_ne, readV_box, loadV_lp, List.length_cons, Nat.reduceAdd, Nat.reduceLeDiff, boxV_A, List.drop_zero, List.take_succ_cons, List.take_zero, copy1_d, mkAgg_eq, allD_d, allD_nil, consD_some, aggV_some, okS_some, evalK_call, allLeave_cons, leaves_d, allLeave_nil, eCall_f, hr, callC_some, spentAll_cons, spentAll_nil, zm, put_tup, readV_tup, evalK_extract, extV_0, copy_d, extV_1, evalK_un, un_not, Bool.not_true, Option.map_some, exL_cond, condC_b, Bool.false_eq_true, ↓reduceIte, exL_skip, evalK_fieldAddr, faV_lp, put_lp, readV_lp, boxV_1, List.getElem?_cons_succ, List.getElem?_cons_zero, evalK_conv, wm, rI, rd_mv, takeV_d, spent_mv, Nat.add_zero, exL_block, evalK_bin, isC_t, isC_c, Bool.or_true, bin_eql, Int.reduceEq, decide_false, blockC_nrm, restrict_cons, keepV_box, keepV_d, restrict_nil, evalK_buildSlice, dcells_s, List.reduceReplicate, Nat.reduceLT, fillD_cons, List.set_cons_zero, List.set_cons_succ, fillD_nil, wfs_cons, one_s, wf_one, wfs_nil, slO_some, put_osl, evalK_indexAddr, readV_osl, iz, put_cp, readV_cp, loadV_cp_s, Bool.or_self, q0, q1, rC, q2, q3, q4, exL_ret, finC_ret, resultVs_cons, resultV_t, ownV_d, resultVs_nil, consO_some, leaveC_1]
      all_goals rfl
    · obtain ⟨s0, e0, l0, q0⟩ := sadde (x := [66]) (y := z) (n := 1) (m := 10) (by simp) lz (by omega)
      obtain ⟨s1, e1, l1, q1⟩ := sadde (x := s0) (y := [32]) (n := (1 + 10)) (m := 1) l0 (by simp) (by omega)
      obtain ⟨s2, e2, l2, q2⟩ := sadde (x := s1) (y := (decI Imm)) (n := ((1 + 10) + 1)) (m := 11) l1 lI (by omega)
      have fin : (bif true then (bif decide ((3 : Int) < 2) then (opsL[(o : Int).toNat]?.getD []) ++ ((bif true then [39] else []) ++ ((bif false then [35] else []) ++ ([32] ++ (regT (a : Int) ++ ([44, 32] ++ (regT (b : Int) ++ ([44, 32] ++ (bif decide ((3 : Int) = 0) then regT (c : Int) else decI Imm)))))))) else bif decide ((3 : Int) = 2) then (bif true then [83, 84, 82] else [76, 68, 82]) ++ ((bif false then [66] else []) ++ ([32] ++ (regT (a : Int) ++ ([44, 32] ++ (regT (b : Int) ++ ([44, 32] ++ decI Imm)))))) else (bif false then [66, 76] else [66]) ++ ((condsL[(a : Int).toNat]?.getD []) ++ ([32] ++ (bif true then decI Imm else regT (c : Int) ++ ([44, 32] ++ decI Imm))))) else [63]) = s2 := by
        rw [e2, e1, e0]
        simp [hy, hz, joinN]
      rw [fin]
      simp only [f_waferref5_Text, argEnv_cons, Nat.zero_add, argEnv_nil, List.length_nil, exL_seq, exL_ops, runOps_n, evalK_box, rd_t, get_eq, readV_d, spent_t, cells_agg, List.map_cons, List.map_nil, ones_cons, vone_d, one_i, one_b, ones_nil, Bool.and_self, boxN_t, opC_ok, put_box, killLp_cons, killV_d, killLp_nil, evalK_mov, rd_c, spent_c, put_d, runOps_nil, thenC_nrm, evalK_load, Nat.reduceEqDiff, get_ne, readV_box, loadV_lp, List.length_cons, Nat.reduceAdd, Nat.reduceLeDiff, boxV_A, List.drop_zero, List.take_succ_cons, List.take_zero, copy1_d, mkAgg_eq, allD_d, allD_nil, consD_some, aggV_some, okS_some, evalK_call, allLeave_cons, leaves_d, allLeave_nil, eCall_f, hr, callC_some, spentAll_cons, spentAll_nil, zm, put_tup, readV_tup, evalK_extract, extV_0, copy_d, extV_1, evalK_un, un_not, Bool.not_true, Option.map_some, exL_cond, condC_b, Bool.false_eq_true, ↓reduceIte, exL_skip, evalK_fieldAddr, faV_lp, put_lp, readV_lp, boxV_1, List.getElem?_cons_succ, List.getElem?_cons_zero, evalK_conv, wm, rI, rd_mv, takeV_d, spent_mv, Nat.add_zero, exL_block, evalK_bin, isC_t, isC_c, Bool.or_true, bin_eql, Int.reduceEq, decide_false, blockC_nrm, restrict_cons, keepV_box, keepV_d, restrict_nil, evalK_buildSlice, dcells_s, List.reduceReplicate, Nat.reduceLT, fillD_cons, List.set_cons_zero, List.set_cons_succ, fillD_nil, wfs_cons, one_s, wf_one, wfs_nil, slO_some, put_osl, evalK_indexAddr, readV_osl, iz, put_cp, readV_cp, loadV_cp_s, Bool.or_self, q0, q1, q2, exL_ret, thenC_ret, finC_ret, resultVs_cons, resultV_t, ownV_d, resultVs_nil, consO_some, leaveC_1]
      all_goals rfl
    · obtain ⟨s0, e0, l0, q0⟩ := sadde (x := [66, 76]) (y := z) (n := 2) (m := 10) (by simp) lz (by omega)
      obtain ⟨s1, e1, l1, q1⟩ := sadde (x := s0) (y := [32]) (n := (2 + 10)) (m := 1) l0 (by simp) (by omega)
      obtain ⟨s2, e2, l2, q2⟩ := sadde (x := s1) (y := (decI Imm)) (n := ((2 + 10) + 1)) (m := 11) l1 lI (by omega)
      have fin : (bif true then (bif decide ((3 : Int) < 2) then (opsL[(o : Int).toNat]?.getD []) ++ ((bif true then [39] else []) ++ ((bif true then [35] else []) ++ ([32] ++ (regT (a : Int) ++ ([44, 32] ++ (regT (b : Int) ++ ([44, 32] ++ (bif decide ((3 : Int) = 0) then regT (c : Int) else decI Imm)))))))) else bif decide ((3 : Int) = 2) then (bif true then [83, 84, 82] else [76, 68, 82]) ++ ((bif true then [66] else []) ++ ([32] ++ (regT (a : Int) ++ ([44, 32] ++ (regT (b : Int) ++ ([44, 32] ++ decI Imm)))))) else (bif true then [66, 76] else [66]) ++ ((condsL[(a : Int).toNat]?.getD []) ++ ([32] ++ (bif true then decI Imm else regT (c : Int) ++ ([44, 32] ++ decI Imm))))) else [63]) = s2 := by
        rw [e2, e1, e0]
        simp [hy, hz, joinN]
      rw [fin]
      simp only [f_waferref5_Text, argEnv_cons, Nat.zero_add, argEnv_nil, List.length_nil, exL_seq, exL_ops, runOps_n, evalK_box, rd_t, get_eq, readV_d, spent_t, cells_agg, List.map_cons, List.map_nil, ones_cons, vone_d, one_i, one_b, ones_nil, Bool.and_self, boxN_t, opC_ok, put_box, killLp_cons, killV_d, killLp_nil, evalK_mov, rd_c, spent_c, put_d, runOps_nil, thenC_nrm, evalK_load, Nat.reduceEqDiff, get_ne, readV_box, loadV_lp, List.length_cons, Nat.reduceAdd, Nat.reduceLeDiff, boxV_A, List.drop_zero, List.take_succ_cons, List.take_zero, copy1_d, mkAgg_eq, allD_d, allD_nil, consD_some, aggV_some, okS_some, evalK_call, allLeave_cons, leaves_d, allLeave_nil, eCall_f, hr, callC_some, spentAll_cons, spentAll_nil, zm, put_tup, readV_tup, evalK_extract, extV_0, copy_d, extV_1, evalK_un, un_not, Bool.not_true, Option.map_some, exL_cond, condC_b, Bool.false_eq_true, ↓reduceIte, exL_skip, evalK_fieldAddr, faV_lp, put_lp, readV_lp, boxV_1, List.getElem?_cons_succ, List.getElem?_cons_zero, evalK_conv, wm, rI, rd_mv, takeV_d, spent_mv, Nat.add_zero, exL_block, evalK_bin, isC_t, isC_c, Bool.or_true, bin_eql, Int.reduceEq, decide_false, blockC_nrm, restrict_cons, keepV_box, keepV_d, restrict_nil, evalK_buildSlice, dcells_s, List.reduceReplicate, Nat.reduceLT, fillD_cons, List.set_cons_zero, List.set_cons_succ, fillD_nil, wfs_cons, one_s, wf_one, wfs_nil, slO_some, put_osl, evalK_indexAddr, readV_osl, iz, put_cp, readV_cp, loadV_cp_s, Bool.or_self, q0, q1, q2, exL_ret, thenC_ret, finC_ret, resultVs_cons, resultV_t, ownV_d, resultVs_nil, consO_some, leaveC_1]
      all_goals rfl
  · simp [f0, f1, f2, f3] at hF
theorem text_call {i : Ins} (hi1 : -2147483648 ≤ i.Imm) (hi2 : i.Imm < 2147483648) : callL pg 9 [.d (eI i)] [] = some ⟨false, true, .d (.s (textI i)), [], 0⟩ := by
  rw [callL_fn (fn := f_risc_Text) rfl rfl]
  cases h : rightB i
  · have hr := right_call (i := i) (H := [])
    rw [h] at hr
    unfold textI
    rw [h]
    unfold eI at hr ⊢
    simp only [f_risc_Text, argEnv_cons, Nat.zero_add, argEnv_nil, List.length_nil, exL_seq, exL_ops, runOps_n, evalK_box, rd_t, get_eq, readV_d, spent_t, cells_agg, List.map_cons, List.map_nil, ones_cons, vone_d, one_i, one_b, ones_nil, Bool.and_self, boxN_t, opC_ok, put_box, killLp_cons, killV_d, killLp_nil, evalK_mov, rd_c, spent_c, put_d, runOps_nil, thenC_nrm, evalK_load, Nat.reduceEqDiff, get_ne, readV_box, loadV_lp, List.length_cons, Nat.reduceAdd, Nat.reduceLeDiff, boxV_A, List.drop_zero, List.take_succ_cons, List.take_zero, copy1_d, mkAgg_eq, allD_d, allD_nil, consD_some, aggV_some, okS_some, evalK_call, allLeave_cons, leaves_d, allLeave_nil, eCall_f, hr, callC_some, spentAll_cons, spentAll_nil, Nat.min_self, evalK_un, un_not, Bool.not_false, Option.map_some, exL_cond, condC_b, ↓reduceIte, exL_ret, thenC_ret, finC_ret, resultVs_cons, resultV_t, ownV_d, resultVs_nil, consO_some, leaveC_1, List.cons_append, List.nil_append]
    all_goals rfl
  have hr := right_call (i := i) (H := [])
  rw [h] at hr
  have h' := h
  unfold textI
  rw [h]
  obtain ⟨F, U, V, A, B, C, Op, Imm⟩ := i
  simp only at hi1 hi2
  simp only [rightB, nibs, Bool.and_eq_true] at h
  obtain ⟨⟨⟨⟨nA, nB⟩, nC⟩, nO⟩, hF⟩ := h
  obtain ⟨a, rfl, ha⟩ := nib_nat nA
  obtain ⟨b, rfl, hb⟩ := nib_nat nB
  obtain ⟨c, rfl, hc⟩ := nib_nat nC
  obtain ⟨o, rfl, ho⟩ := nib_nat nO
  have lA := regT_len (n := (a : Int)) (by omega) (by omega)
  have lB := regT_len (n := (b : Int)) (by omega) (by omega)
  have lC := regT_len (n := (c : Int)) (by omega) (by omega)
  have lI := decI_len (x := Imm) (by omega) (by omega)
  have wm : wr .i64 Imm = Imm := wr_i64 (by omega) (by omega)
  obtain ⟨y, hy, ly⟩ := opsL_at ho
  obtain ⟨z, hz, lz⟩ := condsL_at ha
  have zm : ∀ n : Nat, min 0 n = 0 := Nat.zero_min
  unfold eI at hr ⊢
  simp only at hr
  have rA := reg_call (n := (a : Int)) (H := []) (by omega) (by omega)
  have rB := reg_call (n := (b : Int)) (H := []) (by omega) (by omega)
  have rC := reg_call (n := (c : Int)) (H := [.cells [.d (.s (regT (a : Int))), .d (.s (regT (b : Int))), .d (.s (decI Imm))]]) (by omega) (by omega)
  have rI := itoa_call (H := []) (x := Imm) (by omega) (by omega)
  obtain ⟨lo, hops⟩ := ops_call (regT (a : Int)) (regT (b : Int)) (decI Imm)
  have ix : iaV (.d (.sl (opsL.map D.s))) (.d (.i .i64 (o : Int))) 1 none = some (.cp (.s y)) := iaV_sl (by omega) (by rw [Int.toNat_natCast, List.getElem?_map, hy]; rfl) (eq_true rfl)
  have iz : iaV (.d (.sl (condsL.map D.s))) (.d (.i .i64 (a : Int))) 1 none = some (.cp (.s z)) := iaV_sl (by omega) (by rw [Int.toNat_natCast, List.getElem?_map, hz]; rfl) (eq_true rfl)
  by_cases f0 : F = 0
  · subst f0
    cases U <;> cases V
    · have hj : callL pg 22 [.rs 0 0 3 3, .d (.s [44, 32])] [.cells ([regT (a : Int), regT (b : Int), regT (c : Int)].map (fun x => V.d (.s x)))] = _ := join_row (L := [regT (a : Int), regT (b : Int), regT (c : Int)]) (sep := [44, 32]) (by simp) rfl rfl rfl (by simp) (by simp) (by simp [joinN]; omega)
      simp only [List.map_cons, List.map_nil] at hj
      obtain ⟨J, eJ, lJ⟩ : ∃ J : List Nat, J = joinN [44, 32] [regT (a : Int), regT (b : Int), regT (c : Int)] ∧ J.length ≤ 100 := ⟨_, rfl, by simp [joinN]; omega⟩
      rw [← eJ] at hj
      obtain ⟨s0, e0, l0, q0⟩ := sadde (x := y) (y := []) (n := 10) (m := 0) ly (by simp) (by omega)
      obtain ⟨s1, e1, l1, q1⟩ := sadde (x := s0) (y := []) (n := (10 + 0)) (m := 0) l0 (by simp) (by omega)
      obtain ⟨s2, e2, l2, q2⟩ := sadde (x := s1) (y := [32]) (n := ((10 + 0) + 0)) (m := 1) l1 (by simp) (by omega)
      obtain ⟨s3, e3, l3, q3⟩ := sadde (x := s2) (y := J) (n := (((10 + 0) + 0) + 1)) (m := 100) l2 lJ (by omega)
      have fin : (bif true then (bif decide ((0 : Int) < 2) then (opsL[(o : Int).toNat]?.getD []) ++ ((bif false then [39] else []) ++ ((bif false then [35] else []) ++ ([32] ++ (regT (a : Int) ++ ([44, 32] ++ (regT (b : Int) ++ ([44, 32] ++ (bif decide ((0 : Int) = 0) then regT (c : Int) else decI Imm)))))))) else bif decide ((0 : Int) = 2) then (bif false then [83, 84, 82] else [76, 68, 82]) ++ ((bif false then [66] else []) ++ ([32] ++ (regT (a : Int) ++ ([44, 32] ++ (regT (b : Int) ++ ([44, 32] ++ decI Imm)))))) else (bif false then [66, 76] else [66]) ++ ((condsL[(a : Int).toNat]?.getD []) ++ ([32] ++ (bif false then decI Imm else regT (c : Int) ++ ([44, 32] ++ decI Imm))))) else [63]) = s3 := by
        rw [e3, e2, e1, e0, eJ]
        simp [hy, hz, joinN]
      rw [fin]
      simp only [f_risc_Text, argEnv_cons, Nat.zero_add, argEnv_nil, List.length_nil, exL_seq, exL_ops, runOps_n, evalK_box, rd_t, get_eq, readV_d, spent_t, cells_agg, List.map_cons, List.map_nil, ones_cons, vone_d, one_i, one_b, ones_nil, Bool.and_self, boxN_t, opC_ok, put_box, killLp_cons, killV_d, killLp_nil, evalK_mov, rd_c, spent_c, put_d, runOps_nil, thenC_nrm, evalK_load, Nat.reduceEqDiff, get_ne, readV_box, loadV_lp, List.length_cons, Nat.reduceAdd, Nat.reduceLeDiff, boxV_A, List.drop_zero, List.take_succ_cons, List.take_zero, copy1_d, mkAgg_eq, allD_d, allD_nil, consD_some, aggV_some, okS_some, evalK_call, allLeave_cons, leaves_d, allLeave_nil, eCall_f, hr, callC_some, spentAll_cons, spentAll_nil, zm, evalK_un, un_not, Bool.not_true, Option.map_some, exL_cond, condC_b, Bool.false_eq_true, ↓reduceIte, exL_skip, evalK_fieldAddr, faV_lp, put_lp, readV_lp, boxV_1, List.getElem?_cons_succ, List.getElem?_cons_zero, evalK_conv, wm, rI, rd_mv, takeV_d, spent_mv, exL_opsD, runOpsD_n, opDC_same, putD_lp, hasNat_nil, lpD_f, putC_some, putD_d, rA, rB, evalK_buildRow, dcells_s, List.reduceReplicate, Nat.reduceLT, fillD_cons, List.set_cons_zero, List.set_cons_succ, fillD_nil, wfs_cons, one_s, wf_one, wfs_nil, dones_cons, dones_nil, rowR_some, List.nil_append, opDC_serial, putD_rs, readV_rs, runOpsD_nil, exL_block, Nat.add_zero, evalK_bin, isC_t, isC_c, Bool.or_true, bin_lss, Int.reduceLT, decide_true, hops, evalK_indexAddr, ix, putD_cp, readV_cp, loadV_cp_s, either_call, cond_false, Bool.or_self, q0, q1, bin_eql, put_rs, rC, Int.reduceLE, Int.cast_ofNat_Int, iaV_rs, Int.reduceToNat, put_ptr, evalK_store, readV_ptr, storeV_P, cells_d1, storeP_cells, setCells_1, storePR_some, setAt_one, put_none, blockC_nrm, restrict_cons, keepV_d, keepV_rs, restrict_nil, q2, takeV_rs, leaves_rs, hj, q3, exL_ret, finC_ret, resultVs_cons, resultV_t, ownV_d, resultVs_nil, consO_some, leaveC_1]
      all_goals rfl
    · have hj : callL pg 22 [.rs 0 0 3 3, .d (.s [44, 32])] [.cells ([regT (a : Int), regT (b : Int), regT (c : Int)].map (fun x => V.d (.s x)))] = _ := join_row (L := [regT (a : Int), regT (b : Int), regT (c : Int)]) (sep := [44, 32]) (by simp) rfl rfl rfl (by simp) (by simp) (by simp [joinN]; omega)
      simp only [List.map_cons, List.map_nil] at hj
      obtain ⟨J, eJ, lJ⟩ : ∃ J : List Nat, J = joinN [44, 32] [regT (a : Int), regT (b : Int), regT (c : Int)] ∧ J.length ≤ 100 := ⟨_, rfl, by simp [joinN]; omega⟩
      rw [← eJ] at hj
      obtain ⟨s0, e0, l0, q0⟩ := sadde (x := y) (y := []) (n := 10) (m := 0) ly (by simp) (by omega)
      obtain ⟨s1, e1, l1, q1⟩ := sadde (x := s0) (y := [35]) (n := (10 + 0)) (m := 1) l0 (by simp) (by omega)
      obtain ⟨s2, e2, l2, q2⟩ := sadde (x := s1) (y := [32]) (n := ((10 + 0) + 1)) (m := 1) l1 (by simp) (by omega)
      obtain ⟨s3, e3, l3, q3⟩ := sadde (x := s2) (y := J) (n := (((10 + 0) + 1) + 1)) (m := 100) l2 lJ (by omega)
      have fin : (bif true then (bif decide ((0 : Int) < 2) then (opsL[(o : Int).toNat]?.getD []) ++ ((bif false then [39] else []) ++ ((bif true then [35] else []) ++ ([32] ++ (regT (a : Int) ++ ([44, 32] ++ (regT (b : Int) ++ ([44, 32] ++ (bif decide ((0 : Int) = 0) then regT (c : Int) else decI Imm)))))))) else bif decide ((0 : Int) = 2) then (bif false then [83, 84, 82] else [76, 68, 82]) ++ ((bif true then [66] else []) ++ ([32] ++ (regT (a : Int) ++ ([44, 32] ++ (regT (b : Int) ++ ([44, 32] ++ decI Imm)))))) else (bif true then [66, 76] else [66]) ++ ((condsL[(a : Int).toNat]?.getD []) ++ ([32] ++ (bif false then decI Imm else regT (c : Int) ++ ([44, 32] ++ decI Imm))))) else [63]) = s3 := by
        rw [e3, e2, e1, e0, eJ]
        simp [hy, hz, joinN]
      rw [fin]
      simp only [f_risc_Text, argEnv_cons, Nat.zero_add, argEnv_nil, List.length_nil, exL_seq, exL_ops, runOps_n, evalK_box, rd_t, get_eq, readV_d, spent_t, cells_agg, List.map_cons, List.map_nil, ones_cons, vone_d, one_i, one_b, ones_nil, Bool.and_self, boxN_t, opC_ok, put_box, killLp_cons, killV_d, killLp_nil, evalK_mov, rd_c, spent_c, put_d, runOps_nil, thenC_nrm, evalK_load, Nat.reduceEqDiff, get_ne, readV_box, loadV_lp, List.length_cons, Nat.reduceAdd, Nat.reduceLeDiff, boxV_A, List.drop_zero, List.take_succ_cons, List.take_zero, copy1_d, mkAgg_eq, allD_d, allD_nil, consD_some, aggV_some, okS_some, evalK_call, allLeave_cons, leaves_d, allLeave_nil, eCall_f, hr, callC_some, spentAll_cons, spentAll_nil, zm, evalK_un, un_not, Bool.not_true, Option.map_some, exL_cond, condC_b, Bool.false_eq_true, ↓reduceIte, exL_skip, evalK_fieldAddr, faV_lp, put_lp, readV_lp, boxV_1, List.getElem?_cons_succ, List.getElem?_cons_zero, evalK_conv, wm, rI, rd_mv, takeV_d, spent_mv, exL_opsD, runOpsD_n, opDC_same, putD_lp, hasNat_nil, lpD_f, putC_some, putD_d, rA, rB, evalK_buildRow, dcells_s, List.reduceReplicate, Nat.reduceLT, fillD_cons, List.set_cons_zero, List.set_cons_succ, fillD_nil, wfs_cons, one_s, wf_one, wfs_nil, dones_cons, dones_nil, rowR_some, List.nil_append, opDC_serial, putD_rs, readV_rs, runOpsD_nil, exL_block, Nat.add_zero, evalK_bin, isC_t, isC_c, Bool.or_true, bin_lss, Int.reduceLT, decide_true, hops, evalK_indexAddr, ix, putD_cp, readV_cp, loadV_cp_s, either_call, cond_false, Bool.or_self, q0, cond_true, q1, bin_eql, put_rs, rC, Int.reduceLE, Int.cast_ofNat_Int, iaV_rs, Int.reduceToNat, put_ptr, evalK_store, readV_ptr, storeV_P, cells_d1, storeP_cells, setCells_1, storePR_some, setAt_one, put_none, blockC_nrm, restrict_cons, keepV_d, keepV_rs, restrict_nil, q2, takeV_rs, leaves_rs, hj, q3, exL_ret, finC_ret, resultVs_cons, resultV_t, ownV_d, resultVs_nil, consO_some, leaveC_1]
      all_goals rfl
    · have hj : callL pg 22 [.rs 0 0 3 3, .d (.s [44, 32])] [.cells ([regT (a : Int), regT (b : Int), regT (c : Int)].map (fun x => V.d (.s x)))] = _ := join_row (L := [regT (a : Int), regT (b : Int), regT (c : Int)]) (sep := [44, 32]) (by simp) rfl rfl rfl (by simp) (by simp) (by simp [joinN]; omega)
      simp only [List.map_cons, List.map_nil] at hj
      obtain ⟨J, eJ, lJ⟩ : ∃ J : List Nat, J = joinN [44, 32] [regT (a : Int), regT (b : Int), regT (c : Int)] ∧ J.length ≤ 100 := ⟨_, rfl, by simp [joinN]; omega⟩
      rw [← eJ] at hj
      obtain ⟨s0, e0, l0, q0⟩ := sadde (x := y) (y := [39]) (n := 10) (m := 1) ly (by simp) (by omega)
      obtain ⟨s1, e1, l1, q1⟩ := sadde (x := s0) (y := []) (n := (10 + 1)) (m := 0) l0 (by simp) (by omega)
      obtain ⟨s2, e2, l2, q2⟩ := sadde (x := s1) (y := [32]) (n := ((10 + 1) + 0)) (m := 1) l1 (by simp) (by omega)
      obtain ⟨s3, e3, l3, q3⟩ := sadde (x := s2) (y := J) (n := (((10 + 1) + 0) + 1)) (m := 100) l2 lJ (by omega)
      have fin : (bif true then (bif decide ((0 : Int) < 2) then (opsL[(o : Int).toNat]?.getD []) ++ ((bif true then [39] else []) ++ ((bif false then [35] else []) ++ ([32] ++ (regT (a : Int) ++ ([44, 32] ++ (regT (b : Int) ++ ([44, 32] ++ (bif decide ((0 : Int) = 0) then regT (c : Int) else decI Imm)))))))) else bif decide ((0 : Int) = 2) then (bif true then [83, 84, 82] else [76, 68, 82]) ++ ((bif false then [66] else []) ++ ([32] ++ (regT (a : Int) ++ ([44, 32] ++ (regT (b : Int) ++ ([44, 32] ++ decI Imm)))))) else (bif false then [66, 76] else [66]) ++ ((condsL[(a : Int).toNat]?.getD []) ++ ([32] ++ (bif true then decI Imm else regT (c : Int) ++ ([44, 32] ++ decI Imm))))) else [63]) = s3 := by
        rw [e3, e2, e1, e0, eJ]
        simp [hy, hz, joinN]
      rw [fin]
      simp only [f_risc_Text, argEnv_cons, Nat.zero_add, argEnv_nil, List.length_nil, exL_seq, exL_ops, runOps_n, evalK_box, rd_t, get_eq, readV_d, spent_t, cells_agg, List.map_cons, List.map_nil, ones_cons, vone_d, one_i, one_b, ones_nil, Bool.and_self, boxN_t, opC_ok, put_box, killLp_cons, killV_d, killLp_nil, evalK_mov, rd_c, spent_c, put_d, runOps_nil, thenC_nrm, evalK_load, Nat.reduceEqDiff, get_ne, readV_box, loadV_lp, List.length_cons, Nat.reduceAdd, Nat.reduceLeDiff, boxV_A, List.drop_zero, List.take_succ_cons, List.take_zero, copy1_d, mkAgg_eq, allD_d, allD_nil, consD_some, aggV_some, okS_some, evalK_call, allLeave_cons, leaves_d, allLeave_nil, eCall_f, hr, callC_some, spentAll_cons, spentAll_nil, zm, evalK_un, un_not, Bool.not_true, Option.map_some, exL_cond, condC_b, Bool.false_eq_true, ↓reduceIte, exL_skip, evalK_fieldAddr, faV_lp, put_lp, readV_lp, boxV_1, List.getElem?_cons_succ, List.getElem?_cons_zero, evalK_conv, wm, rI, rd_mv, takeV_d, spent_mv, exL_opsD, runOpsD_n, opDC_same, putD_lp, hasNat_nil, lpD_f, putC_some, putD_d, rA, rB, evalK_buildRow, dcells_s, List.reduceReplicate, Nat.reduceLT, fillD_cons, List.set_cons_zero, List.set_cons_succ, fillD_nil, wfs_cons, one_s, wf_one, wfs_nil, dones_cons, dones_nil, rowR_some, List.nil_append, opDC_serial, putD_rs, readV_rs, runOpsD_nil, exL_block, Nat.add_zero, evalK_bin, isC_t, isC_c, Bool.or_true, bin_lss, Int.reduceLT, decide_true, hops, evalK_indexAddr, ix, putD_cp, readV_cp, loadV_cp_s, either_call, cond_true, Bool.or_self, q0, cond_false, q1, bin_eql, put_rs, rC, Int.reduceLE, Int.cast_ofNat_Int, iaV_rs, Int.reduceToNat, put_ptr, evalK_store, readV_ptr, storeV_P, cells_d1, storeP_cells, setCells_1, storePR_some, setAt_one, put_none, blockC_nrm, restrict_cons, keepV_d, keepV_rs, restrict_nil, q2, takeV_rs, leaves_rs, hj, q3, exL_ret, finC_ret, resultVs_cons, resultV_t, ownV_d, resultVs_nil, consO_some, leaveC_1]
      all_goals rfl
    · have hj : callL pg 22 [.rs 0 0 3 3, .d (.s [44, 32])] [.cells ([regT (a : Int), regT (b : Int), regT (c : Int)].map (fun x => V.d (.s x)))] = _ := join_row (L := [regT (a : Int), regT (b : Int), regT (c : Int)]) (sep := [44, 32]) (by simp) rfl rfl rfl (by simp) (by simp) (by simp [joinN]; omega)
      simp only [List.map_cons, List.map_nil] at hj
      obtain ⟨J, eJ, lJ⟩ : ∃ J : List Nat, J = joinN [44, 32] [regT (a : Int), regT (b : Int), regT (c : Int)] ∧ J.length ≤ 100 := ⟨_, rfl, by simp [joinN]; omega⟩
      rw [← eJ] at hj
      obtain ⟨s0, e0, l0, q0⟩ := sadde (x := y) (y := [39]) (n := 10) (m := 1) ly (by simp) (by omega)
      obtain ⟨s1, e1, l1, q1⟩ := sadde (x := s0) (y := [35]) (n := (10 + 1)) (m := 1) l0 (by simp) (by omega)
      obtain ⟨s2, e2, l2, q2⟩ := sadde (x := s1) (y := [32]) (n := ((10 + 1) + 1)) (m := 1) l1 (by simp) (by omega)
      obtain ⟨s3, e3, l3, q3⟩ := sadde (x := s2) (y := J) (n := (((10 + 1) + 1) + 1)) (m := 100) l2 lJ (by omega)
      have fin : (bif true then (bif decide ((0 : Int) < 2) then (opsL[(o : Int).toNat]?.getD []) ++ ((bif true then [39] else []) ++ ((bif true then [35] else []) ++ ([32] ++ (regT (a : Int) ++ ([44, 32] ++ (regT (b : Int) ++ ([44, 32] ++ (bif decide ((0 : Int) = 0) then regT (c : Int) else decI Imm)))))))) else bif decide ((0 : Int) = 2) then (bif true then [83, 84, 82] else [76, 68, 82]) ++ ((bif true then [66] else []) ++ ([32] ++ (regT (a : Int) ++ ([44, 32] ++ (regT (b : Int) ++ ([44, 32] ++ decI Imm)))))) else (bif true then [66, 76] else [66]) ++ ((condsL[(a : Int).toNat]?.getD []) ++ ([32] ++ (bif true then decI Imm else regT (c : Int) ++ ([44, 32] ++ decI Imm))))) else [63]) = s3 := by
        rw [e3, e2, e1, e0, eJ]
        simp [hy, hz, joinN]
      rw [fin]
      simp only [f_risc_Text, argEnv_cons, Nat.zero_add, argEnv_nil, List.length_nil, exL_seq, exL_ops, runOps_n, evalK_box, rd_t, get_eq, readV_d, spent_t, cells_agg, List.map_cons, List.map_nil, ones_cons, vone_d, one_i, one_b, ones_nil, Bool.and_self, boxN_t, opC_ok, put_box, killLp_cons, killV_d, killLp_nil, evalK_mov, rd_c, spent_c, put_d, runOps_nil, thenC_nrm, evalK_load, Nat.reduceEqDiff, get_ne, readV_box, loadV_lp, List.length_cons, Nat.reduceAdd, Nat.reduceLeDiff, boxV_A, List.drop_zero, List.take_succ_cons, List.take_zero, copy1_d, mkAgg_eq, allD_d, allD_nil, consD_some, aggV_some, okS_some, evalK_call, allLeave_cons, leaves_d, allLeave_nil, eCall_f, hr, callC_some, spentAll_cons, spentAll_nil, zm, evalK_un, un_not, Bool.not_true, Option.map_some, exL_cond, condC_b, Bool.false_eq_true, ↓reduceIte, exL_skip, evalK_fieldAddr, faV_lp, put_lp, readV_lp, boxV_1, List.getElem?_cons_succ, List.getElem?_cons_zero, evalK_conv, wm, rI, rd_mv, takeV_d, spent_mv, exL_opsD, runOpsD_n, opDC_same, putD_lp, hasNat_nil, lpD_f, putC_some, putD_d, rA, rB, evalK_buildRow, dcells_s, List.reduceReplicate, Nat.reduceLT, fillD_cons, List.set_cons_zero, List.set_cons_succ, fillD_nil, wfs_cons, one_s, wf_one, wfs_nil, dones_cons, dones_nil, rowR_some, List.nil_append, opDC_serial, putD_rs, readV_rs, runOpsD_nil, exL_block, Nat.add_zero, evalK_bin, isC_t, isC_c, Bool.or_true, bin_lss, Int.reduceLT, decide_true, hops, evalK_indexAddr, ix, putD_cp, readV_cp, loadV_cp_s, either_call, cond_true, Bool.or_self, q0, q1, bin_eql, put_rs, rC, Int.reduceLE, Int.cast_ofNat_Int, iaV_rs, Int.reduceToNat, put_ptr, evalK_store, readV_ptr, storeV_P, cells_d1, storeP_cells, setCells_1, storePR_some, setAt_one, put_none, blockC_nrm, restrict_cons, keepV_d, keepV_rs, restrict_nil, q2, takeV_rs, leaves_rs, hj, q3, exL_ret, finC_ret, resultVs_cons, resultV_t, ownV_d, resultVs_nil, consO_some, leaveC_1]
      all_goals rfl
  by_cases f1 : F = 1
  · subst f1
    cases U <;> cases V
    · have hj : callL pg 22 [.rs 0 0 3 3, .d (.s [44, 32])] [.cells ([regT (a : Int), regT (b : Int), decI Imm].map (fun x => V.d (.s x)))] = _ := join_row (L := [regT (a : Int), regT (b : Int), decI Imm]) (sep := [44, 32]) (by simp) rfl rfl rfl (by simp) (by simp) (by simp [joinN]; omega)
      simp only [List.map_cons, List.map_nil] at hj
      obtain ⟨J, eJ, lJ⟩ : ∃ J : List Nat, J = joinN [44, 32] [regT (a : Int), regT (b : Int), decI Imm] ∧ J.length ≤ 100 := ⟨_, rfl, by simp [joinN]; omega⟩
      rw [← eJ] at hj
      obtain ⟨s0, e0, l0, q0⟩ := sadde (x := y) (y := []) (n := 10) (m := 0) ly (by simp) (by omega)
      obtain ⟨s1, e1, l1, q1⟩ := sadde (x := s0) (y := []) (n := (10 + 0)) (m := 0) l0 (by simp) (by omega)
      obtain ⟨s2, e2, l2, q2⟩ := sadde (x := s1) (y := [32]) (n := ((10 + 0) + 0)) (m := 1) l1 (by simp) (by omega)
      obtain ⟨s3, e3, l3, q3⟩ := sadde (x := s2) (y := J) (n := (((10 + 0) + 0) + 1)) (m := 100) l2 lJ (by omega)
      have fin : (bif true then (bif decide ((1 : Int) < 2) then (opsL[(o : Int).toNat]?.getD []) ++ ((bif false then [39] else []) ++ ((bif false then [35] else []) ++ ([32] ++ (regT (a : Int) ++ ([44, 32] ++ (regT (b : Int) ++ ([44, 32] ++ (bif decide ((1 : Int) = 0) then regT (c : Int) else decI Imm)))))))) else bif decide ((1 : Int) = 2) then (bif false then [83, 84, 82] else [76, 68, 82]) ++ ((bif false then [66] else []) ++ ([32] ++ (regT (a : Int) ++ ([44, 32] ++ (regT (b : Int) ++ ([44, 32] ++ decI Imm)))))) else (bif false then [66, 76] else [66]) ++ ((condsL[(a : Int).toNat]?.getD []) ++ ([32] ++ (bif false then decI Imm else regT (c : Int) ++ ([44, 32] ++ decI Imm))))) else [63]) = s3 := by
        rw [e3, e2, e1, e0, eJ]
        simp [hy, hz, joinN]
      rw [fin]
      simp only [f_risc_Text, argEnv_cons, Nat.zero_add, argEnv_nil, List.length_nil, exL_seq, exL_ops, runOps_n, evalK_box, rd_t, get_eq, readV_d, spent_t, cells_agg, List.map_cons, List.map_nil, ones_cons, vone_d, one_i, one_b, ones_nil, Bool.and_self, boxN_t, opC_ok, put_box, killLp_cons, killV_d, killLp_nil, evalK_mov, rd_c, spent_c, put_d, runOps_nil, thenC_nrm, evalK_load, Nat.reduceEqDiff, get_ne, readV_box, loadV_lp, List.length_cons, Nat.reduceAdd, Nat.reduceLeDiff, boxV_A, List.drop_zero, List.take_succ_cons, List.take_zero, copy1_d, mkAgg_eq, allD_d, allD_nil, consD_some, aggV_some, okS_some, evalK_call, allLeave_cons, leaves_d, allLeave_nil, eCall_f, hr, callC_some, spentAll_cons, spentAll_nil, zm, evalK_un, un_not, Bool.not_true, Option.map_some, exL_cond, condC_b, Bool.false_eq_true, ↓reduceIte, exL_skip, evalK_fieldAddr, faV_lp, put_lp, readV_lp, boxV_1, List.getElem?_cons_succ, List.getElem?_cons_zero, evalK_conv, wm, rI, rd_mv, takeV_d, spent_mv, exL_opsD, runOpsD_n, opDC_same, putD_lp, hasNat_nil, lpD_f, putC_some, putD_d, rA, rB, evalK_buildRow, dcells_s, List.reduceReplicate, Nat.reduceLT, fillD_cons, List.set_cons_zero, List.set_cons_succ, fillD_nil, wfs_cons, one_s, wf_one, wfs_nil, dones_cons, dones_nil, rowR_some, List.nil_append, opDC_serial, putD_rs, readV_rs, runOpsD_nil, exL_block, Nat.add_zero, evalK_bin, isC_t, isC_c, Bool.or_true, bin_lss, Int.reduceLT, decide_true, hops, evalK_indexAddr, ix, putD_cp, readV_cp, loadV_cp_s, either_call, cond_false, Bool.or_self, q0, q1, bin_eql, Int.reduceEq, decide_false, blockC_nrm, restrict_cons, keepV_d, keepV_rs, restrict_nil, q2, takeV_rs, put_rs, leaves_rs, hj, q3, exL_ret, finC_ret, resultVs_cons, resultV_t, ownV_d, resultVs_nil, consO_some, leaveC_1]
      all_goals rfl
    · have hj : callL pg 22 [.rs 0 0 3 3, .d (.s [44, 32])] [.cells ([regT (a : Int), regT (b : Int), decI Imm].map (fun x => V.d (.s x)))] = _ := join_row (L := [regT (a : Int), regT (b : Int), decI Imm]) (sep := [44, 32]) (by simp) rfl rfl rfl (by simp) (by simp) (by simp [joinN]; omega)
      simp only [List.map_cons, List.map_nil] at hj
      obtain ⟨J, eJ, lJ⟩ : ∃ J : List Nat, J = joinN [44, 32] [regT (a : Int), regT (b : Int), decI Imm] ∧ J.length ≤ 100 := ⟨_, rfl, by simp [joinN]; omega⟩
      rw [← eJ] at hj
      obtain ⟨s0, e0, l0, q0⟩ := sadde (x := y) (y := []) (n := 10) (m := 0) ly (by simp) (by omega)
      obtain ⟨s1, e1, l1, q1⟩ := sadde (x := s0) (y := [35]) (n := (10 + 0)) (m := 1) l0 (by simp) (by omega)
      obtain ⟨s2, e2, l2, q2⟩ := sadde (x := s1) (y := [32]) (n := ((10 + 0) + 1)) (m := 1) l1 (by simp) (by omega)
      obtain ⟨s3, e3, l3, q3⟩ := sadde (x := s2) (y := J) (n := (((10 + 0) + 1) + 1)) (m := 100) l2 lJ (by omega)
      have fin : (bif true then (bif decide ((1 : Int) < 2) then (opsL[(o : Int).toNat]?.getD []) ++ ((bif false then [39] else []) ++ ((bif true then [35] else []) ++ ([32] ++ (regT (a : Int) ++ ([44, 32] ++ (regT (b : Int) ++ ([44, 32] ++ (bif decide ((1 : Int) = 0) then regT (c : Int) else decI Imm)))))))) else bif decide ((1 : Int) = 2) then (bif false then [83, 84, 82] else [76, 68, 82]) ++ ((bif true then [66] else []) ++ ([32] ++ (regT (a : Int) ++ ([44, 32] ++ (regT (b : Int) ++ ([44, 32] ++ decI Imm)))))) else (bif true then [66, 76] else [66]) ++ ((condsL[(a : Int).toNat]?.getD []) ++ ([32] ++ (bif false then decI Imm else regT (c : Int) ++ ([44, 32] ++ decI Imm))))) else [63]) = s3 := by
        rw [e3, e2, e1, e0, eJ]
        simp [hy, hz, joinN]
      rw [fin]
      simp only [f_risc_Text, argEnv_cons, Nat.zero_add, argEnv_nil, List.length_nil, exL_seq, exL_ops, runOps_n, evalK_box, rd_t, get_eq, readV_d, spent_t, cells_agg, List.map_cons, List.map_nil, ones_cons, vone_d, one_i, one_b, ones_nil, Bool.and_self, boxN_t, opC_ok, put_box, killLp_cons, killV_d, killLp_nil, evalK_mov, rd_c, spent_c, put_d, runOps_nil, thenC_nrm, evalK_load, Nat.reduceEqDiff, get_ne, readV_box, loadV_lp, List.length_cons, Nat.reduceAdd, Nat.reduceLeDiff, boxV_A, List.drop_zero, List.take_succ_cons, List.take_zero, copy1_d, mkAgg_eq, allD_d, allD_nil, consD_some, aggV_some, okS_some, evalK_call, allLeave_cons, leaves_d, allLeave_nil, eCall_f, hr, callC_some, spentAll_cons, spentAll_nil, zm, evalK_un, un_not, Bool.not_true, Option.map_some, exL_cond, condC_b, Bool.false_eq_true, ↓reduceIte, exL_skip, evalK_fieldAddr, faV_lp, put_lp, readV_lp, boxV_1, List.getElem?_cons_succ, List.getElem?_cons_zero, evalK_conv, wm, rI, rd_mv, takeV_d, spent_mv, exL_opsD, runOpsD_n, opDC_same, putD_lp, hasNat_nil, lpD_f, putC_some, putD_d, rA, rB, evalK_buildRow, dcells_s, List.reduceReplicate, Nat.reduceLT, fillD_cons, List.set_cons_zero, List.set_cons_succ, fillD_nil, wfs_cons, one_s, wf_one, wfs_nil, dones_cons, dones_nil, rowR_some, List.nil_append, opDC_serial, putD_rs, readV_rs, runOpsD_nil, exL_block, Nat.add_zero, evalK_bin, isC_t, isC_c, Bool.or_true, bin_lss, Int.reduceLT, decide_true, hops, evalK_indexAddr, ix, putD_cp, readV_cp, loadV_cp_s, either_call, cond_false, Bool.or_self, q0, cond_true, q1, bin_eql, Int.reduceEq, decide_false, blockC_nrm, restrict_cons, keepV_d, keepV_rs, restrict_nil, q2, takeV_rs, put_rs, leaves_rs, hj, q3, exL_ret, finC_ret, resultVs_cons, resultV_t, ownV_d, resultVs_nil, consO_some, leaveC_1]
      all_goals rfl
    · have hj : callL pg 22 [.rs 0 0 3 3, .d (.s [44, 32])] [.cells ([regT (a : Int), regT (b : Int), decI Imm].map (fun x => V.d (.s x)))] = _ := join_row (L := [regT (a : Int), regT (b : Int), decI Imm]) (sep := [44, 32]) (by simp) rfl rfl rfl (by simp) (by simp) (by simp [joinN]; omega)
      simp only [List.map_cons, List.map_nil] at hj
      obtain ⟨J, eJ, lJ⟩ : ∃ J : List Nat, J = joinN [44, 32] [regT (a : Int), regT (b : Int), decI Imm] ∧ J.length ≤ 100 := ⟨_, rfl, by simp [joinN]; omega⟩
      rw [← eJ] at hj
      obtain ⟨s0, e0, l0, q0⟩ := sadde (x := y) (y := [39]) (n := 10) (m := 1) ly (by simp) (by omega)
      obtain ⟨s1, e1, l1, q1⟩ := sadde (x := s0) (y := []) (n := (10 + 1)) (m := 0) l0 (by simp) (by omega)
      obtain ⟨s2, e2, l2, q2⟩ := sadde (x := s1) (y := [32]) (n := ((10 + 1) + 0)) (m := 1) l1 (by simp) (by omega)
      obtain ⟨s3, e3, l3, q3⟩ := sadde (x := s2) (y := J) (n := (((10 + 1) + 0) + 1)) (m := 100) l2 lJ (by omega)
      have fin : (bif true then (bif decide ((1 : Int) < 2) then (opsL[(o : Int).toNat]?.getD []) ++ ((bif true then [39] else []) ++ ((bif false then [35] else []) ++ ([32] ++ (regT (a : Int) ++ ([44, 32] ++ (regT (b : Int) ++ ([44, 32] ++ (bif decide ((1 : Int) = 0) then regT (c : Int) else decI Imm)))))))) else bif decide ((1 : Int) = 2) then (bif true then [83, 84, 82] else [76, 68, 82]) ++ ((bif false then [66] else []) ++ ([32] ++ (regT (a : Int) ++ ([44, 32] ++ (regT (b : Int) ++ ([44, 32] ++ decI Imm)))))) else (bif false then [66, 76] else [66]) ++ ((condsL[(a : Int).toNat]?.getD []) ++ ([32] ++ (bif true then decI Imm else regT (c : Int) ++ ([44, 32] ++ decI Imm))))) else [63]) = s3 := by
        rw [e3, e2, e1, e0, eJ]
        simp [hy, hz, joinN]
      rw [fin]
      simp only [f_risc_Text, argEnv_cons, Nat.zero_add, argEnv_nil, List.length_nil, exL_seq, exL_ops, runOps_n, evalK_box, rd_t, get_eq, readV_d, spent_t, cells_agg, List.map_cons, List.map_nil, ones_cons, vone_d, one_i, one_b, ones_nil, Bool.and_self, boxN_t, opC_ok, put_box, killLp_cons, killV_d, killLp_nil, evalK_mov, rd_c, spent_c, put_d, runOps_nil, thenC_nrm, evalK_load, Nat.reduceEqDiff, get_ne, readV_box, loadV_lp, List.length_cons, Nat.reduceAdd, Nat.reduceLeDiff, boxV_A, List.drop_zero, List.take_succ_cons, List.take_zero, copy1_d, mkAgg_eq, allD_d, allD_nil, consD_some, aggV_some, okS_some, evalK_call, allLeave_cons, leaves_d, allLeave_nil, eCall_f, hr, callC_some, spentAll_cons, spentAll_nil, zm, evalK_un, un_not, Bool.not_true, Option.map_some, exL_cond, condC_b, Bool.false_eq_true, ↓reduceIte, exL_skip, evalK_fieldAddr, faV_lp, put_lp, readV_lp, boxV_1, List.getElem?_cons_succ, List.getElem?_cons_zero, evalK_conv, wm, rI, rd_mv, takeV_d, spent_mv, exL_opsD, runOpsD_n, opDC_same, putD_lp, hasNat_nil, lpD_f, putC_some, putD_d, rA, rB, evalK_buildRow, dcells_s, List.reduceReplicate, Nat.reduceLT, fillD_cons, List.set_cons_zero, List.set_cons_succ, fillD_nil, wfs_cons, one_s, wf_one, wfs_nil, dones_cons, dones_nil, rowR_some, List.nil_append, opDC_serial, putD_rs, readV_rs, runOpsD_nil, exL_block, Nat.add_zero, evalK_bin, isC_t, isC_c, Bool.or_true, bin_lss, Int.reduceLT, decide_true, hops, evalK_indexAddr, ix, putD_cp, readV_cp, loadV_cp_s, either_call, cond_true, Bool.or_self, q0, cond_false, q1, bin_eql, Int.reduceEq, decide_false, blockC_nrm, restrict_cons, keepV_d, keepV_rs, restrict_nil, q2, takeV_rs, put_rs, leaves_rs, hj, q3, exL_ret, finC_ret, resultVs_cons, resultV_t, ownV_d, resultVs_nil, consO_some, leaveC_1]
      all_goals rfl
    · have hj : callL pg 22 [.rs 0 0 3 3, .d (.s [44, 32])] [.cells ([regT (a : Int), regT (b : Int), decI Imm].map (fun x => V.d (.s x)))] = _ := join_row (L := [regT (a : Int), regT (b : Int), decI Imm]) (sep := [44, 32]) (by simp) rfl rfl rfl (by simp) (by simp) (by simp [joinN]; omega)
      simp only [List.map_cons, List.map_nil] at hj
      obtain ⟨J, eJ, lJ⟩ : ∃ J : List Nat, J = joinN [44, 32] [regT (a : Int), regT (b : Int), decI Imm] ∧ J.length ≤ 100 := ⟨_, rfl, by simp [joinN]; omega⟩
      rw [← eJ] at hj
      obtain ⟨s0, e0, l0, q0⟩ := sadde (x := y) (y := [39]) (n := 10) (m := 1) ly (by simp) (by omega)
      obtain ⟨s1, e1, l1, q1⟩ := sadde (x := s0) (y := [35]) (n := (10 + 1)) (m := 1) l0 (by simp) (by omega)
      obtain ⟨s2, e2, l2, q2⟩ := sadde (x := s1) (y := [32]) (n := ((10 + 1) + 1)) (m := 1) l1 (by simp) (by omega)
      obtain ⟨s3, e3, l3, q3⟩ := sadde (x := s2) (y := J) (n := (((10 + 1) + 1) + 1)) (m := 100) l2 lJ (by omega)
      have fin : (bif true then (bif decide ((1 : Int) < 2) then (opsL[(o : Int).toNat]?.getD []) ++ ((bif true then [39] else []) ++ ((bif true then [35] else []) ++ ([32] ++ (regT (a : Int) ++ ([44, 32] ++ (regT (b : Int) ++ ([44, 32] ++ (bif decide ((1 : Int) = 0) then regT (c : Int) else decI Imm)))))))) else bif decide ((1 : Int) = 2) then (bif true then [83, 84, 82] else [76, 68, 82]) ++ ((bif true then [66] else []) ++ ([32] ++ (regT (a : Int) ++ ([44, 32] ++ (regT (b : Int) ++ ([44, 32] ++ decI Imm)))))) else (bif true then [66, 76] else [66]) ++ ((condsL[(a : Int).toNat]?.getD []) ++ ([32] ++ (bif true then decI Imm else regT (c : Int) ++ ([44, 32] ++ decI Imm))))) else [63]) = s3 := by
        rw [e3, e2, e1, e0, eJ]
        simp [hy, hz, joinN]
      rw [fin]
      simp only [f_risc_Text, argEnv_cons, Nat.zero_add, argEnv_nil, List.length_nil, exL_seq, exL_ops, runOps_n, evalK_box, rd_t, get_eq, readV_d, spent_t, cells_agg, List.map_cons, List.map_nil, ones_cons, vone_d, one_i, one_b, ones_nil, Bool.and_self, boxN_t, opC_ok, put_box, killLp_cons, killV_d, killLp_nil, evalK_mov, rd_c, spent_c, put_d, runOps_nil, thenC_nrm, evalK_load, Nat.reduceEqDiff, get_ne, readV_box, loadV_lp, List.length_cons, Nat.reduceAdd, Nat.reduceLeDiff, boxV_A, List.drop_zero, List.take_succ_cons, List.take_zero, copy1_d, mkAgg_eq, allD_d, allD_nil, consD_some, aggV_some, okS_some, evalK_call, allLeave_cons, leaves_d, allLeave_nil, eCall_f, hr, callC_some, spentAll_cons, spentAll_nil, zm, evalK_un, un_not, Bool.not_true, Option.map_some, exL_cond, condC_b, Bool.false_eq_true, ↓reduceIte, exL_skip, evalK_fieldAddr, faV_lp, put_lp, readV_lp, boxV_1, List.getElem?_cons_succ, List.getElem?_cons_zero, evalK_conv, wm, rI, rd_mv, takeV_d, spent_mv, exL_opsD, runOpsD_n, opDC_same, putD_lp, hasNat_nil, lpD_f, putC_some, putD_d, rA, rB, evalK_buildRow, dcells_s, List.reduceReplicate, Nat.reduceLT, fillD_cons, List.set_cons_zero, List.set_cons_succ, fillD_nil, wfs_cons, one_s, wf_one, wfs_nil, dones_cons, dones_nil, rowR_some, List.nil_append, opDC_serial, putD_rs, readV_rs, runOpsD_nil, exL_block, Nat.add_zero, evalK_bin, isC_t, isC_c, Bool.or_true, bin_lss, Int.reduceLT, decide_true, hops, evalK_indexAddr, ix, putD_cp, readV_cp, loadV_cp_s, either_call, cond_true, Bool.or_self, q0, q1, bin_eql, Int.reduceEq, decide_false, blockC_nrm, restrict_cons, keepV_d, keepV_rs, restrict_nil, q2, takeV_rs, put_rs, leaves_rs, hj, q3, exL_ret, finC_ret, resultVs_cons, resultV_t, ownV_d, resultVs_nil, consO_some, leaveC_1]
      all_goals rfl
  by_cases f2 : F = 2
  · subst f2
    cases U <;> cases V
    · have hj : callL pg 22 [.rs 0 0 3 3, .d (.s [44, 32])] [.cells ([regT (a : Int), regT (b : Int), decI Imm].map (fun x => V.d (.s x)))] = _ := join_row (L := [regT (a : Int), regT (b : Int), decI Imm]) (sep := [44, 32]) (by simp) rfl rfl rfl (by simp) (by simp) (by simp [joinN]; omega)
      simp only [List.map_cons, List.map_nil] at hj
      obtain ⟨J, eJ, lJ⟩ : ∃ J : List Nat, J = joinN [44, 32] [regT (a : Int), regT (b : Int), decI Imm] ∧ J.length ≤ 100 := ⟨_, rfl, by simp [joinN]; omega⟩
      rw [← eJ] at hj
      obtain ⟨s0, e0, l0, q0⟩ := sadde (x := [76, 68, 82]) (y := []) (n := 3) (m := 0) (by simp) (by simp) (by omega)
      obtain ⟨s1, e1, l1, q1⟩ := sadde (x := s0) (y := [32]) (n := (3 + 0)) (m := 1) l0 (by simp) (by omega)
      obtain ⟨s2, e2, l2, q2⟩ := sadde (x := s1) (y := J) (n := ((3 + 0) + 1)) (m := 100) l1 lJ (by omega)
      have fin : (bif true then (bif decide ((2 : Int) < 2) then (opsL[(o : Int).toNat]?.getD []) ++ ((bif false then [39] else []) ++ ((bif false then [35] else []) ++ ([32] ++ (regT (a : Int) ++ ([44, 32] ++ (regT (b : Int) ++ ([44, 32] ++ (bif decide ((2 : Int) = 0) then regT (c : Int) else decI Imm)))))))) else bif decide ((2 : Int) = 2) then (bif false then [83, 84, 82] else [76, 68, 82]) ++ ((bif false then [66] else []) ++ ([32] ++ (regT (a : Int) ++ ([44, 32] ++ (regT (b : Int) ++ ([44, 32] ++ decI Imm)))))) else (bif false then [66, 76] else [66]) ++ ((condsL[(a : Int).toNat]?.getD []) ++ ([32] ++ (bif false then decI Imm else regT (c : Int) ++ ([44, 32] ++ decI Imm))))) else [63]) = s2 := by
        rw [e2, e1, e0, eJ]
        simp [hy, hz, joinN]
      rw [fin]
      simp only [f_risc_Text, argEnv_cons, Nat.zero_add, argEnv_nil, List.length_nil, exL_seq, exL_ops, runOps_n, evalK_box, rd_t, get_eq, readV_d, spent_t, cells_agg, List.map_cons, List.map_nil, ones_cons, vone_d, one_i, one_b, ones_nil, Bool.and_self, boxN_t, opC_ok, put_box, killLp_cons, killV_d, killLp_nil, evalK_mov, rd_c, spent_c, put_d, runOps_nil, thenC_nrm, evalK_load, Nat.reduceEqDiff, get_ne, readV_box, loadV_lp, List.length_cons, Nat.reduceAdd, Nat.reduceLeDiff, boxV_A, List.drop_zero, List.take_succ_cons, List.take_zero, copy1_d, mkAgg_eq, allD_d, allD_nil, consD_some, aggV_some, okS_some, evalK_call, allLeave_cons, leaves_d, allLeave_nil, eCall_f, hr, callC_some, spentAll_cons, spentAll_nil, zm, evalK_un, un_not, Bool.not_true, Option.map_some, exL_cond, condC_b, Bool.false_eq_true, ↓reduceIte, exL_skip, evalK_fieldAddr, faV_lp, put_lp, readV_lp, boxV_1, List.getElem?_cons_succ, List.getElem?_cons_zero, evalK_conv, wm, rI, rd_mv, takeV_d, spent_mv, exL_opsD, runOpsD_n, opDC_same, putD_lp, hasNat_nil, lpD_f, putC_some, putD_d, rA, rB, evalK_buildRow, dcells_s, List.reduceReplicate, Nat.reduceLT, fillD_cons, List.set_cons_zero, List.set_cons_succ, fillD_nil, wfs_cons, one_s, wf_one, wfs_nil, dones_cons, dones_nil, rowR_some, List.nil_append, opDC_serial, putD_rs, readV_rs, runOpsD_nil, exL_block, Nat.add_zero, evalK_bin, isC_t, isC_c, Bool.or_true, bin_lss, Int.reduceLT, decide_false, bin_eql, decide_true, either_call, cond_false, Bool.or_self, q0, blockC_nrm, restrict_cons, keepV_d, keepV_rs, restrict_nil, q1, takeV_rs, put_rs, leaves_rs, hj, q2, exL_ret, finC_ret, resultVs_cons, resultV_t, ownV_d, resultVs_nil, consO_some, leaveC_1]
      all_goals rfl
    · have hj : callL pg 22 [.rs 0 0 3 3, .d (.s [44, 32])] [.cells ([regT (a : Int), regT (b : Int), decI Imm].map (fun x => V.d (.s x)))] = _ := join_row (L := [regT (a : Int), regT (b : Int), decI Imm]) (sep := [44, 32]) (by simp) rfl rfl rfl (by simp) (by simp) (by simp [joinN]; omega)
      simp only [List.map_cons, List.map_nil] at hj
      obtain ⟨J, eJ, lJ⟩ : ∃ J : List Nat, J = joinN [44, 32] [regT (a : Int), regT (b : Int), decI Imm] ∧ J.length ≤ 100 := ⟨_, rfl, by simp [joinN]; omega⟩
      rw [← eJ] at hj
      obtain ⟨s0, e0, l0, q0⟩ := sadde (x := [76, 68, 82]) (y := [66]) (n := 3) (m := 1) (by simp) (by simp) (by omega)
      obtain ⟨s1, e1, l1, q1⟩ := sadde (x := s0) (y := [32]) (n := (3 + 1)) (m := 1) l0 (by simp) (by omega)
      obtain ⟨s2, e2, l2, q2⟩ := sadde (x := s1) (y := J) (n := ((3 + 1) + 1)) (m := 100) l1 lJ (by omega)
      have fin : (bif true then (bif decide ((2 : Int) < 2) then (opsL[(o : Int).toNat]?.getD []) ++ ((bif false then [39] else []) ++ ((bif true then [35] else []) ++ ([32] ++ (regT (a : Int) ++ ([44, 32] ++ (regT (b : Int) ++ ([44, 32] ++ (bif decide ((2 : Int) = 0) then regT (c : Int) else decI Imm)))))))) else bif decide ((2 : Int) = 2) then (bif false then [83, 84, 82] else [76, 68, 82]) ++ ((bif true then [66] else []) ++ ([32] ++ (regT (a : Int) ++ ([44, 32] ++ (regT (b : Int) ++ ([44, 32] ++ decI Imm)))))) else (bif true then [66, 76] else [66]) ++ ((condsL[(a : Int).toNat]?.getD []) ++ ([32] ++ (bif false then decI Imm else regT (c : Int) ++ ([44, 32] ++ decI Imm))))) else [63]) = s2 := by
        rw [e2, e1, e0, eJ]
        simp [hy, hz, joinN]
      rw [fin]
      simp only [f_risc_Text, argEnv_cons, Nat.zero_add, argEnv_nil, List.length_nil, exL_seq, exL_ops, runOps_n, evalK_box, rd_t, get_eq, readV_d, spent_t, cells_agg, List.map_cons, List.map_nil, ones_cons, vone_d, one_i, one_b, ones_nil, Bool.and_self, boxN_t, opC_ok, put_box, killLp_cons, killV_d, killLp_nil, evalK_mov, rd_c, spent_c, put_d, runOps_nil, thenC_nrm, evalK_load, Nat.reduceEqDiff, get_ne, readV_box, loadV_lp, List.length_cons, Nat.reduceAdd, Nat.reduceLeDiff, boxV_A, List.drop_zero, List.take_succ_cons, List.take_zero, copy1_d, mkAgg_eq, allD_d, allD_nil, consD_some, aggV_some, okS_some, evalK_call, allLeave_cons, leaves_d, allLeave_nil, eCall_f, hr, callC_some, spentAll_cons, spentAll_nil, zm, evalK_un, un_not, Bool.not_true, Option.map_some, exL_cond, condC_b, Bool.false_eq_true, ↓reduceIte, exL_skip, evalK_fieldAddr, faV_lp, put_lp, readV_lp, boxV_1, List.getElem?_cons_succ, List.getElem?_cons_zero, evalK_conv, wm, rI, rd_mv, takeV_d, spent_mv, exL_opsD, runOpsD_n, opDC_same, putD_lp, hasNat_nil, lpD_f, putC_some, putD_d, rA, rB, evalK_buildRow, dcells_s, List.reduceReplicate, Nat.reduceLT, fillD_cons, List.set_cons_zero, List.set_cons_succ, fillD_nil, wfs_cons, one_s, wf_one, wfs_nil, dones_cons, dones_nil, rowR_some, List.nil_append, opDC_serial, putD_rs, readV_rs, runOpsD_nil, exL_block, Nat.add_zero, evalK_bin, isC_t, isC_c, Bool.or_true, bin_lss, Int.reduceLT, decide_false, bin_eql, decide_true, either_call, cond_false, cond_true, Bool.or_self, q0, blockC_nrm, restrict_cons, keepV_d, keepV_rs, restrict_nil, q1, takeV_rs, put_rs, leaves_rs, hj, q2, exL_ret, finC_ret, resultVs_cons, resultV_t, ownV_d, resultVs_nil, consO_some, leaveC_1]
      all_goals rfl
    · have hj : callL pg 22 [.rs 0 0 3 3, .d (.s [44, 32])] [.cells ([regT (a : Int), regT (b : Int), decI Imm].map (fun x => V.d (.s x)))] = _ := join_row (L := [regT (a : Int), regT (b : Int), decI Imm]) (sep := [44, 32]) (by simp) rfl rfl rfl (by simp) (by simp) (by simp [joinN]; omega)
      simp only [List.map_cons, List.map_nil] at hj
      obtain ⟨J, eJ, lJ⟩ : ∃ J : List Nat, J = joinN [44, 32] [regT (a : Int), regT (b : Int), decI Imm] ∧ J.length ≤ 100 := ⟨_, rfl, by simp [joinN]; omega⟩
      rw [← eJ] at hj
      obtain ⟨s0, e0, l0, q0⟩ := sadde (x := [83, 84, 82]) (y := []) (n := 3) (m := 0) (by simp) (by simp) (by omega)
      obtain ⟨s1, e1, l1, q1⟩ := sadde (x := s0) (y := [32]) (n := (3 + 0)) (m := 1) l0 (by simp) (by omega)
      obtain ⟨s2, e2, l2, q2⟩ := sadde (x := s1) (y := J) (n := ((3 + 0) + 1)) (m := 100) l1 lJ (by omega)
      have fin : (bif true then (bif decide ((2 : Int) < 2) then (opsL[(o : Int).toNat]?.getD []) ++ ((bif true then [39] else []) ++ ((bif false then [35] else []) ++ ([32] ++ (regT (a : Int) ++ ([44, 32] ++ (regT (b : Int) ++ ([44, 32] ++ (bif decide ((2 : Int) = 0) then regT (c : Int) else decI Imm)))))))) else bif decide ((2 : Int) = 2) then (bif true then [83, 84, 82] else [76, 68, 82]) ++ ((bif false then [66] else []) ++ ([32] ++ (regT (a : Int) ++ ([44, 32] ++ (regT (b : Int) ++ ([44, 32] ++ decI Imm)))))) else (bif false then [66, 76] else [66]) ++ ((condsL[(a : Int).toNat]?.getD []) ++ ([32] ++ (bif true then decI Imm else regT (c : Int) ++ ([44, 32] ++ decI Imm))))) else [63]) = s2 := by
        rw [e2, e1, e0, eJ]
        simp [hy, hz, joinN]
      rw [fin]
      simp only [f_risc_Text, argEnv_cons, Nat.zero_add, argEnv_nil, List.length_nil, exL_seq, exL_ops, runOps_n, evalK_box, rd_t, get_eq, readV_d, spent_t, cells_agg, List.map_cons, List.map_nil, ones_cons, vone_d, one_i, one_b, ones_nil, Bool.and_self, boxN_t, opC_ok, put_box, killLp_cons, killV_d, killLp_nil, evalK_mov, rd_c, spent_c, put_d, runOps_nil, thenC_nrm, evalK_load, Nat.reduceEqDiff, get_ne, readV_box, loadV_lp, List.length_cons, Nat.reduceAdd, Nat.reduceLeDiff, boxV_A, List.drop_zero, List.take_succ_cons, List.take_zero, copy1_d, mkAgg_eq, allD_d, allD_nil, consD_some, aggV_some, okS_some, evalK_call, allLeave_cons, leaves_d, allLeave_nil, eCall_f, hr, callC_some, spentAll_cons, spentAll_nil, zm, evalK_un, un_not, Bool.not_true, Option.map_some, exL_cond, condC_b, Bool.false_eq_true, ↓reduceIte, exL_skip, evalK_fieldAddr, faV_lp, put_lp, readV_lp, boxV_1, List.getElem?_cons_succ, List.getElem?_cons_zero, evalK_conv, wm, rI, rd_mv, takeV_d, spent_mv, exL_opsD, runOpsD_n, opDC_same, putD_lp, hasNat_nil, lpD_f, putC_some, putD_d, rA, rB, evalK_buildRow, dcells_s, List.reduceReplicate, Nat.reduceLT, fillD_cons, List.set_cons_zero, List.set_cons_succ, fillD_nil, wfs_cons, one_s, wf_one, wfs_nil, dones_cons, dones_nil, rowR_some, List.nil_append, opDC_serial, putD_rs, readV_rs, runOpsD_nil, exL_block, Nat.add_zero, evalK_bin, isC_t, isC_c, Bool.or_true, bin_lss, Int.reduceLT, decide_false, bin_eql, decide_true, either_call, cond_true, cond_false, Bool.or_self, q0, blockC_nrm, restrict_cons, keepV_d, keepV_rs, restrict_nil, q1, takeV_rs, put_rs, leaves_rs, hj, q2, exL_ret, finC_ret, resultVs_cons, resultV_t, ownV_d, resultVs_nil, consO_some, leaveC_1]
      all_goals rfl
    · have hj : callL pg 22 [.rs 0 0 3 3, .d (.s [44, 32])] [.cells ([regT (a : Int), regT (b : Int), decI Imm].map (fun x => V.d (.s x)))] = _ := join_row (L := [regT (a : Int), regT (b : Int), decI Imm]) (sep := [44, 32]) (by simp) rfl rfl rfl (by simp) (by simp) (by simp [joinN]; omega)
      simp only [List.map_cons, List.map_nil] at hj
      obtain ⟨J, eJ, lJ⟩ : ∃ J : List Nat, J = joinN [44, 32] [regT (a : Int), regT (b : Int), decI Imm] ∧ J.length ≤ 100 := ⟨_, rfl, by simp [joinN]; omega⟩
      rw [← eJ] at hj
      obtain ⟨s0, e0, l0, q0⟩ := sadde (x := [83, 84, 82]) (y := [66]) (n := 3) (m := 1) (by simp) (by simp) (by omega)
      obtain ⟨s1, e1, l1, q1⟩ := sadde (x := s0) (y := [32]) (n := (3 + 1)) (m := 1) l0 (by simp) (by omega)
      obtain ⟨s2, e2, l2, q2⟩ := sadde (x := s1) (y := J) (n := ((3 + 1) + 1)) (m := 100) l1 lJ (by omega)
      have fin : (bif true then (bif decide ((2 : Int) < 2) then (opsL[(o : Int).toNat]?.getD []) ++ ((bif true then [39] else []) ++ ((bif true then [35] else []) ++ ([32] ++ (regT (a : Int) ++ ([44, 32] ++ (regT (b : Int) ++ ([44, 32] ++ (bif decide ((2 : Int) = 0) then regT (c : Int) else decI Imm)))))))) else bif decide ((2 : Int) = 2) then (bif true then [83, 84, 82] else [76, 68, 82]) ++ ((bif true then [66] else []) ++ ([32] ++ (regT (a : Int) ++ ([44, 32] ++ (regT (b : Int) ++ ([44, 32] ++ decI Imm)))))) else (bif true then [66, 76] else [66]) ++ ((condsL[(a : Int).toNat]?.getD []) ++ ([32] ++ (bif true then decI Imm else regT (c : Int) ++ ([44, 32] ++ decI Imm))))) else [63]) = s2 := by
        rw [e2, e1, e0, eJ]
        simp [hy, hz, joinN]
      rw [fin]
      simp only [f_risc_Text, argEnv_cons, Nat.zero_add, argEnv_nil, List.length_nil, exL_seq, exL_ops, runOps_n, evalK_box, rd_t, get_eq, readV_d, spent_t, cells_agg, List.map_cons, List.map_nil, ones_cons, vone_d, one_i, one_b, ones_nil, Bool.and_self, boxN_t, opC_ok, put_box, killLp_cons, killV_d, killLp_nil, evalK_mov, rd_c, spent_c, put_d, runOps_nil, thenC_nrm, evalK_load, Nat.reduceEqDiff, get_ne, readV_box, loadV_lp, List.length_cons, Nat.reduceAdd, Nat.reduceLeDiff, boxV_A, List.drop_zero, List.take_succ_cons, List.take_zero, copy1_d, mkAgg_eq, allD_d, allD_nil, consD_some, aggV_some, okS_some, evalK_call, allLeave_cons, leaves_d, allLeave_nil, eCall_f, hr, callC_some, spentAll_cons, spentAll_nil, zm, evalK_un, un_not, Bool.not_true, Option.map_some, exL_cond, condC_b, Bool.false_eq_true, ↓reduceIte, exL_skip, evalK_fieldAddr, faV_lp, put_lp, readV_lp, boxV_1, List.getElem?_cons_succ, List.getElem?_cons_zero, evalK_conv, wm, rI, rd_mv, takeV_d, spent_mv, exL_opsD, runOpsD_n, opDC_same, putD_lp, hasNat_nil, lpD_f, putC_some, putD_d, rA, rB, evalK_buildRow, dcells_s, List.reduceReplicate, Nat.reduceLT, fillD_cons, List.set_cons_zero, List.set_cons_succ, fillD_nil, wfs_cons, one_s, wf_one, wfs_nil, dones_cons, dones_nil, rowR_some, List.nil_append, opDC_serial, putD_rs, readV_rs, runOpsD_nil, exL_block, Nat.add_zero, evalK_bin, isC_t, isC_c, Bool.or_true, bin_lss, Int.reduceLT, decide_false, bin_eql, decide_true, either_call, cond_true, Bool.or_self, q0, blockC_nrm, restrict_cons, keepV_d, keepV_rs, restrict_nil, q1, takeV_rs, put_rs, leaves_rs, hj, q2, exL_ret, finC_ret, resultVs_cons, resultV_t, ownV_d, resultVs_nil, consO_some, leaveC_1]
      all_goals rfl
  by_cases f3 : F = 3
  · subst f3
    cases U <;> cases V
    · have hj := join2 (o := .cells [.d (.s (regT (a : Int))), .d (.s (regT (b : Int))), .d (.s (decI Imm))]) (off := 0) (len := 2) (cap := 2) (cs := [.d (.s (regT (c : Int))), .d (.s (decI Imm))]) (L := [regT (c : Int), decI Imm]) (sep := [44, 32]) (by simp) rfl rfl rfl (by simp) (by simp) (by simp [joinN]; omega)
      obtain ⟨J, eJ, lJ⟩ : ∃ J : List Nat, J = joinN [44, 32] [regT (c : Int), decI Imm] ∧ J.length ≤ 100 := ⟨_, rfl, by simp [joinN]; omega⟩
      rw [← eJ] at hj
      obtain ⟨s0, e0, l0, q0⟩ := sadde (x := [66]) (y := z) (n := 1) (m := 10) (by simp) lz (by omega)
      obtain ⟨s1, e1, l1, q1⟩ := sadde (x := s0) (y := [32]) (n := (1 + 10)) (m := 1) l0 (by simp) (by omega)
      obtain ⟨s2, e2, l2, q2⟩ := sadde (x := s1) (y := J) (n := ((1 + 10) + 1)) (m := 100) l1 lJ (by omega)
      have fin : (bif true then (bif decide ((3 : Int) < 2) then (opsL[(o : Int).toNat]?.getD []) ++ ((bif false then [39] else []) ++ ((bif false then [35] else []) ++ ([32] ++ (regT (a : Int) ++ ([44, 32] ++ (regT (b : Int) ++ ([44, 32] ++ (bif decide ((3 : Int) = 0) then regT (c : Int) else decI Imm)))))))) else bif decide ((3 : Int) = 2) then (bif false then [83, 84, 82] else [76, 68, 82]) ++ ((bif false then [66] else []) ++ ([32] ++ (regT (a : Int) ++ ([44, 32] ++ (regT (b : Int) ++ ([44, 32] ++ decI Imm)))))) else (bif false then [66, 76] else [66]) ++ ((condsL[(a : Int).toNat]?.getD []) ++ ([32] ++ (bif false then decI Imm else regT (c : Int) ++ ([44, 32] ++ decI Imm))))) else [63]) = s2 := by
        rw [e2, e1, e0, eJ]
        simp [hy, hz, joinN]
      rw [fin]
      simp only [f_risc_Text, argEnv_cons, Nat.zero_add, argEnv_nil, List.length_nil, exL_seq, exL_ops, runOps_n, evalK_box, rd_t, get_eq, readV_d, spent_t, cells_agg, List.map_cons, List.map_nil, ones_cons, vone_d, one_i, one_b, ones_nil, Bool.and_self, boxN_t, opC_ok, put_box, killLp_cons, killV_d, killLp_nil, evalK_mov, rd_c, spent_c, put_d, runOps_nil, thenC_nrm, evalK_load, Nat.reduceEqDiff, get_ne, readV_box, loadV_lp, List.length_cons, Nat.reduceAdd, Nat.reduceLeDiff, boxV_A, List.drop_zero, List.take_succ_cons, List.take_zero, copy1_d, mkAgg_eq, allD_d, allD_nil, consD_some, aggV_some, okS_some, evalK_call, allLeave_cons, leaves_d, allLeave_nil, eCall_f, hr, callC_some, spentAll_cons, spentAll_nil, zm, evalK_un, un_not, Bool.not_true, Option.map_some, exL_cond, condC_b, Bool.false_eq_true, ↓reduceIte, exL_skip, evalK_fieldAddr, faV_lp, put_lp, readV_lp, boxV_1, List.getElem?_cons_succ, List.getElem?_cons_zero, evalK_conv, wm, rI, rd_mv, takeV_d, spent_mv, exL_opsD, runOpsD_n, opDC_same, putD_lp, hasNat_nil, lpD_f, putC_some, putD_d, rA, rB, evalK_buildRow, dcells_s, List.reduceReplicate, Nat.reduceLT, fillD_cons, List.set_cons_zero, List.set_cons_succ, fillD_nil, wfs_cons, one_s, wf_one, wfs_nil, dones_cons, dones_nil, rowR_some, List.nil_append, opDC_serial, putD_rs, readV_rs, runOpsD_nil, exL_block, Nat.add_zero, evalK_bin, isC_t, isC_c, Bool.or_true, bin_lss, Int.reduceLT, decide_false, bin_eql, Int.reduceEq, either_call, cond_false, conds_call, putD_osl, evalK_indexAddr, readV_osl, iz, putD_cp, readV_cp, loadV_cp_s, Bool.or_self, q0, rC, List.cons_append, put_rs, blockC_nrm, restrict_cons, keepV_d, keepV_rs, restrict_nil, q1, takeV_rs, leaves_rs, hj, q2, exL_ret, finC_ret, resultVs_cons, resultV_t, ownV_d, resultVs_nil, consO_some, leaveC_1]
      all_goals rfl
    · have hj := join2 (o := .cells [.d (.s (regT (a : Int))), .d (.s (regT (b : Int))), .d (.s (decI Imm))]) (off := 0) (len := 2) (cap := 2) (cs := [.d (.s (regT (c : Int))), .d (.s (decI Imm))]) (L := [regT (c : Int), decI Imm]) (sep := [44, 32]) (by simp) rfl rfl rfl (by simp) (by simp) (by simp [joinN]; omega)
      obtain ⟨J, eJ, lJ⟩ : ∃ J : List Nat, J = joinN [44, 32] [regT (c : Int), decI Imm] ∧ J.length ≤ 100 := ⟨_, rfl, by simp [joinN]; omega⟩
      rw [← eJ] at hj
      obtain ⟨s0, e0, l0, q0⟩ := sadde (x := [66, 76]) (y := z) (n := 2) (m := 10) (by simp) lz (by omega)
      obtain ⟨s1, e1, l1, q1⟩ := sadde (x := s0) (y := [32]) (n := (2 + 10)) (m := 1) l0 (by simp) (by omega)
      obtain ⟨s2, e2, l2, q2⟩ := sadde (x := s1) (y := J) (n := ((2 + 10) + 1)) (m := 100) l1 lJ (by omega)
      have fin : (bif true then (bif decide ((3 : Int) < 2) then (opsL[(o : Int).toNat]?.getD []) ++ ((bif false then [39] else []) ++ ((bif true then [35] else []) ++ ([32] ++ (regT (a : Int) ++ ([44, 32] ++ (regT (b : Int) ++ ([44, 32] ++ (bif decide ((3 : Int) = 0) then regT (c : Int) else decI Imm)))))))) else bif decide ((3 : Int) = 2) then (bif false then [83, 84, 82] else [76, 68, 82]) ++ ((bif true then [66] else []) ++ ([32] ++ (regT (a : Int) ++ ([44, 32] ++ (regT (b : Int) ++ ([44, 32] ++ decI Imm)))))) else (bif true then [66, 76] else [66]) ++ ((condsL[(a : Int).toNat]?.getD []) ++ ([32] ++ (bif false then decI Imm else regT (c : Int) ++ ([44, 32] ++ decI Imm))))) else [63]) = s2 := by
        rw [e2, e1, e0, eJ]
        simp [hy, hz, joinN]
      rw [fin]
      simp only [f_risc_Text, argEnv_cons, Nat.zero_add, argEnv_nil, List.length_nil, exL_seq, exL_ops, runOps_n, evalK_box, rd_t, get_eq, readV_d, spent_t, cells_agg, List.map_cons, List.map_nil, ones_cons, vone_d, one_i, one_b, ones_nil, Bool.and_self, boxN_t, opC_ok, put_box, killLp_cons, killV_d, killLp_nil, evalK_mov, rd_c, spent_c, put_d, runOps_nil, thenC_nrm, evalK_load, Nat.reduceEqDiff, get_ne, readV_box, loadV_lp, List.length_cons, Nat.reduceAdd, Nat.reduceLeDiff, boxV_A, List.drop_zero, List.take_succ_cons, List.take_zero, copy1_d, mkAgg_eq, allD_d, allD_nil, consD_some, aggV_some, okS_some, evalK_call, allLeave_cons, leaves_d, allLeave_nil, eCall_f, hr, callC_some, spentAll_cons, spentAll_nil, zm, evalK_un, un_not, Bool.not_true, Option.map_some, exL_cond, condC_b, Bool.false_eq_true, ↓reduceIte, exL_skip, evalK_fieldAddr, faV_lp, put_lp, readV_lp, boxV_1, List.getElem?_cons_succ, List.getElem?_cons_zero, evalK_conv, wm, rI, rd_mv, takeV_d, spent_mv, exL_opsD, runOpsD_n, opDC_same, putD_lp, hasNat_nil, lpD_f, putC_some, putD_d, rA, rB, evalK_buildRow, dcells_s, List.reduceReplicate, Nat.reduceLT, fillD_cons, List.set_cons_zero, List.set_cons_succ, fillD_nil, wfs_cons, one_s, wf_one, wfs_nil, dones_cons, dones_nil, rowR_some, List.nil_append, opDC_serial, putD_rs, readV_rs, runOpsD_nil, exL_block, Nat.add_zero, evalK_bin, isC_t, isC_c, Bool.or_true, bin_lss, Int.reduceLT, decide_false, bin_eql, Int.reduceEq, either_call, cond_true, conds_call, putD_osl, evalK_indexAddr, readV_osl, iz, putD_cp, readV_cp, loadV_cp_s, Bool.or_self, q0, rC, List.cons_append, put_rs, blockC_nrm, restrict_cons, keepV_d, keepV_rs, restrict_nil, q1, takeV_rs, leaves_rs, hj, q2, exL_ret, finC_ret, resultVs_cons, resultV_t, ownV_d, resultVs_nil, consO_some, leaveC_1]
      all_goals rfl
    · have hs : sliceD 1 (.rs 1 0 2 2) (some 1) none = some (.rs 1 1 1 1) := rfl
      have hj := join2 (o := .cells [.d (.s (regT (a : Int))), .d (.s (regT (b : Int))), .d (.s (decI Imm))]) (off := 1) (len := 1) (cap := 1) (cs := [.d (.s (regT (c : Int))), .d (.s (decI Imm))]) (L := [decI Imm]) (sep := [44, 32]) (by simp) rfl rfl rfl (by simp) (by simp) (by simp [joinN]; omega)
      obtain ⟨J, eJ, lJ⟩ : ∃ J : List Nat, J = joinN [44, 32] [decI Imm] ∧ J.length ≤ 100 := ⟨_, rfl, by simp [joinN]; omega⟩
      rw [← eJ] at hj
      obtain ⟨s0, e0, l0, q0⟩ := sadde (x := [66]) (y := z) (n := 1) (m := 10) (by simp) lz (by omega)
      obtain ⟨s1, e1, l1, q1⟩ := sadde (x := s0) (y := [32]) (n := (1 + 10)) (m := 1) l0 (by simp) (by omega)
      obtain ⟨s2, e2, l2, q2⟩ := sadde (x := s1) (y := J) (n := ((1 + 10) + 1)) (m := 100) l1 lJ (by omega)
      have fin : (bif true then (bif decide ((3 : Int) < 2) then (opsL[(o : Int).toNat]?.getD []) ++ ((bif true then [39] else []) ++ ((bif false then [35] else []) ++ ([32] ++ (regT (a : Int) ++ ([44, 32] ++ (regT (b : Int) ++ ([44, 32] ++ (bif decide ((3 : Int) = 0) then regT (c : Int) else decI Imm)))))))) else bif decide ((3 : Int) = 2) then (bif true then [83, 84, 82] else [76, 68, 82]) ++ ((bif false then [66] else []) ++ ([32] ++ (regT (a : Int) ++ ([44, 32] ++ (regT (b : Int) ++ ([44, 32] ++ decI Imm)))))) else (bif false then [66, 76] else [66]) ++ ((condsL[(a : Int).toNat]?.getD []) ++ ([32] ++ (bif true then decI Imm else regT (c : Int) ++ ([44, 32] ++ decI Imm))))) else [63]) = s2 := by
        rw [e2, e1, e0, eJ]
        simp [hy, hz, joinN]
      rw [fin]
      simp only [f_risc_Text, argEnv_cons, Nat.zero_add, argEnv_nil, List.length_nil, exL_seq, exL_ops, runOps_n, evalK_box, rd_t, get_eq, readV_d, spent_t, cells_agg, List.map_cons, List.map_nil, ones_cons, vone_d, one_i, one_b, ones_nil, Bool.and_self, boxN_t, opC_ok, put_box, killLp_cons, killV_d, killLp_nil, evalK_mov, rd_c, spent_c, put_d, runOps_nil, thenC_nrm, evalK_load, Nat.reduceEqDiff, get_ne, readV_box, loadV_lp, List.length_cons, Nat.reduceAdd, Nat.reduceLeDiff, boxV_A, List.drop_zero, List.take_succ_cons, List.take_zero, copy1_d, mkAgg_eq, allD_d, allD_nil, consD_some, aggV_some, okS_some, evalK_call, allLeave_cons, leaves_d, allLeave_nil, eCall_f, hr, callC_some, spentAll_cons, spentAll_nil, zm, evalK_un, un_not, Bool.not_true, Option.map_some, exL_cond, condC_b, Bool.false_eq_true, ↓reduceIte, exL_skip, evalK_fieldAddr, faV_lp, put_lp, readV_lp, boxV_1, List.getElem?_cons_succ, List.getElem?_cons_zero, evalK_conv, wm, rI, rd_mv, takeV_d, spent_mv, exL_opsD, runOpsD_n, opDC_same, putD_lp, hasNat_nil, lpD_f, putC_some, putD_d, rA, rB, evalK_buildRow, dcells_s, List.reduceReplicate, Nat.reduceLT, fillD_cons, List.set_cons_zero, List.set_cons_succ, fillD_nil, wfs_cons, one_s, wf_one, wfs_nil, dones_cons, dones_nil, rowR_some, List.nil_append, opDC_serial, putD_rs, readV_rs, runOpsD_nil, exL_block, Nat.add_zero, evalK_bin, isC_t, isC_c, Bool.or_true, bin_lss, Int.reduceLT, decide_false, bin_eql, Int.reduceEq, either_call, cond_false, conds_call, putD_osl, evalK_indexAddr, readV_osl, iz, putD_cp, readV_cp, loadV_cp_s, Bool.or_self, q0, rC, List.cons_append, put_rs, evalK_sliceL, optInt_some, oInt_i, optInt_none, cut2_some, hs, blockC_nrm, restrict_cons, keepV_d, keepV_rs, restrict_nil, q1, takeV_rs, leaves_rs, hj, q2, exL_ret, finC_ret, resultVs_cons, resultV_t, ownV_d, resultVs_nil, consO_some, leaveC_1]
      all_goals rfl
    · have hs : sliceD 1 (.rs 1 0 2 2) (some 1) none = some (.rs 1 1 1 1) := rfl
      have hj := join2 (o := .cells [.d (.s (regT (a : Int))), .d (.s (regT (b : Int))), .d (.s (decI Imm))]) (off := 1) (len := 1) (cap := 1) (cs := [.d (.s (regT (c : Int))), .d (.s (decI Imm))]) (L := [decI Imm]) (sep := [44, 32]) (by simp) rfl rfl rfl (by simp) (by simp) (by simp [joinN]; omega)
      obtain ⟨J, eJ, lJ⟩ : ∃ J : List Nat, J = joinN [44, 32] [decI Imm] ∧ J.length ≤ 100 := ⟨_, rfl, by simp [joinN]; omega⟩
      rw [← eJ] at hj
      obtain ⟨s0, e0, l0, q0⟩ := sadde (x := [66, 76]) (y := z) (n := 2) (m := 10) (by simp) lz (by omega)
      obtain ⟨s1, e1, l1, q1⟩ := sadde (x := s0) (y := [32]) (n := (2 + 10)) (m := 1) l0 (by simp) (by omega)
      obtain ⟨s2, e2, l2, q2⟩ := sadde (x := s1) (y := J) (n := ((2 + 10) + 1)) (m := 100) l1 lJ (by omega)
      have fin : (bif true then (bif decide ((3 : Int) < 2) then (opsL[(o : Int).toNat]?.getD []) ++ ((bif true then [39] else []) ++ ((bif true then [35] else []) ++ ([32] ++ (regT (a : Int) ++ ([44, 32] ++ (regT (b : Int) ++ ([44, 32] ++ (bif decide ((3 : Int) = 0) then regT (c : Int) else decI Imm)))))))) else bif decide ((3 : Int) = 2) then (bif true then [83, 84, 82] else [76, 68, 82]) ++ ((bif true then [66] else []) ++ ([32] ++ (regT (a : Int) ++ ([44, 32] ++ (regT (b : Int) ++ ([44, 32] ++ decI Imm)))))) else (bif true then [66, 76] else [66]) ++ ((condsL[(a : Int).toNat]?.getD []) ++ ([32] ++ (bif true then decI Imm else regT (c : Int) ++ ([44, 32] ++ decI Imm))))) else [63]) = s2 := by
        rw [e2, e1, e0, eJ]
        simp [hy, hz, joinN]
      rw [fin]
      simp only [f_risc_Text, argEnv_cons, Nat.zero_add, argEnv_nil, List.length_nil, exL_seq, exL_ops, runOps_n, evalK_box, rd_t, get_eq, readV_d, spent_t, cells_agg, List.map_cons, List.map_nil, ones_cons, vone_d, one_i, one_b, ones_nil, Bool.and_self, boxN_t, opC_ok, put_box, killLp_cons, killV_d, killLp_nil, evalK_mov, rd_c, spent_c, put_d, runOps_nil, thenC_nrm, evalK_load, Nat.reduceEqDiff, get_ne, readV_box, loadV_lp, List.length_cons, Nat.reduceAdd, Nat.reduceLeDiff, boxV_A, List.drop_zero, List.take_succ_cons, List.take_zero, copy1_d, mkAgg_eq, allD_d, allD_nil, consD_some, aggV_some, okS_some, evalK_call, allLeave_cons, leaves_d, allLeave_nil, eCall_f, hr, callC_some, spentAll_cons, spentAll_nil, zm, evalK_un, un_not, Bool.not_true, Option.map_some, exL_cond, condC_b, Bool.false_eq_true, ↓reduceIte, exL_skip, evalK_fieldAddr, faV_lp, put_lp, readV_lp, boxV_1, List.getElem?_cons_succ, List.getElem?_cons_zero, evalK_conv, wm, rI, rd_mv, takeV_d, spent_mv, exL_opsD, runOpsD_n, opDC_same, putD_lp, hasNat_nil, lpD_f, putC_some, putD_d, rA, rB, evalK_buildRow, dcells_s, List.reduceReplicate, Nat.reduceLT, fillD_cons, List.set_cons_zero, List.set_cons_succ, fillD_nil, wfs_cons, one_s, wf_one, wfs_nil, dones_cons, dones_nil, rowR_some, List.nil_append, opDC_serial, putD_rs, readV_rs, runOpsD_nil, exL_block, Nat.add_zero, evalK_bin, isC_t, isC_c, Bool.or_true, bin_lss, Int.reduceLT, decide_false, bin_eql, Int.reduceEq, either_call, cond_true, conds_call, putD_osl, evalK_indexAddr, readV_osl, iz, putD_cp, readV_cp, loadV_cp_s, Bool.or_self, q0, rC, List.cons_append, put_rs, evalK_sliceL, optInt_some, oInt_i, optInt_none, cut2_some, hs, blockC_nrm, restrict_cons, keepV_d, keepV_rs, restrict_nil, q1, takeV_rs, leaves_rs, hj, q2, exL_ret, finC_ret, resultVs_cons, resultV_t, ownV_d, resultVs_nil, consO_some, leaveC_1]
      all_goals rfl
  · simp [f0, f1, f2, f3] at hF
end W

set_option linter.unusedSimpArgs false
set_option linter.unusedVariables false
namespace W
open Go (IntKind BinOp UnOp)
set_option maxRecDepth 20000
theorem neqI {i : Ins} : ∀ c, binV .neq (.agg [1, 0, 0, 1, 1, 1, 1, 1]) c (.d (.agg [.i .i64 i.F, .b i.U, .b i.V, .i .i64 i.A, .i .i64 i.B, .i .i64 i.C, .i .i64 i.Op, .i .i32 i.Imm])) (.d (.agg [.i .i64 i.F, .b i.U, .b i.V, .i .i64 i.A, .i .i64 i.B, .i .i64 i.C, .i .i64 i.Op, .i .i32 i.Imm])) = some (.d (.b false)) := by
  intro c
  have e : ∀ x : Int, eqI x x = true := fun x => by cases x <;> simp [eqI]
  simp [binV, sameV, D.scalarSame, e, eqK_self]
theorem andNot32 {w : Nat} {m : Int} : ∃ x : Nat, x < 4294967296 ∧ ∀ c, binV .andNot .num c (.d (.i .u32 (w : Int))) (.d (.i .u32 m)) = some (.d (.i .u32 (x : Int))) := by
  refine ⟨((BitVec.ofInt (IntKind.bits .u32) (w : Int)) &&& ~~~(BitVec.ofInt (IntKind.bits .u32) m)).toNat, ?_, fun c => ?_⟩
  · exact BitVec.isLt _
  · rw [bin_i rfl]
    show some (V.d (.i .u32 (IntKind.wrap .u32 _))) = _
    rw [wrap_u32]
    exact BitVec.isLt _
theorem words_step {xs : List D} {i x : Nat} (hi : xs[i]? = some (.i .u32 (x : Int))) (hn : xs.length ≤ 10) (hx : x < 4294967296) :
    f_waferlaw5_RiscWords_l0 pg (.osl xs) (.d (.i .i64 (xs.length : Nat))) (.d (.i .i64 (i : Nat))) [] 0 = f_waferlaw5_RiscWords_l0 pg (.osl xs) (.d (.i .i64 (xs.length : Nat))) (.d (.i .i64 ((i + 1 : Nat) : Int))) [] 0 := by
  have hil : i < xs.length := (List.getElem?_eq_some_iff.1 hi).1
  have hlt : ((i : Int) < (xs.length : Int)) = True := eq_true (by omega)
  have hw : wr .i64 ((i : Int) + 1) = ((i + 1 : Nat) : Int) := by rw [wr_i64 (by omega) (by omega)]; omega
  have hix : iaV (.d (.sl xs)) (.d (.i .i64 (i : Nat))) 1 none = some (.cp (.i .u32 (x : Int))) := iaV_sl (by omega) (by simpa using hi) (eq_true rfl)
  have d1 := decode_call (H := []) hx
  have d2 := decodeR_call (H := []) hx
  cases ok : okW x
  · rw [ok] at d1 d2
    have hne := neqI (i := decR x)
    generalize decR x = j at d1 d2 hne
    unfold eI at d1 d2
    rw [f_waferlaw5_RiscWords_l0_eq]
    simp only [f_waferlaw5_RiscWords_B0, keepV_osl, keepV_d, exL_seq, exL_ops, runOps_n, evalK_bin, isC_t, Bool.or_self, rd_t, Nat.reduceEqDiff, get_ne, get_eq, readV_d, bin_lss, hlt, decide_true, okS_some, opC_ok, put_d, runOps_nil, thenC_nrm, exL_cond, condC_b, ↓reduceIte, exL_skip, exL_block, evalK_indexAddr, readV_osl, hix, put_cp, evalK_load, readV_cp, loadV_cp_i, evalK_mov, spent_t, evalK_call, List.map_cons, List.map_nil, allLeave_cons, leaves_d, allLeave_nil, Bool.and_self, eCall_f, d1, List.length_nil, callC_some, spentAll_cons, spentAll_nil, Nat.min_self, put_tup, readV_tup, evalK_extract, extV_0, copy_d, extV_1, evalK_allocL, put_box, killLp_cons, killV_d, killV_tup, killV_cp, killV_osl, killLp_nil, evalK_store, readV_box, storeV_lp, cells_agg, List.length_cons, Nat.zero_add, Nat.reduceAdd, ones_cons, vone_d, one_i, one_b, ones_nil, storeB_box, setCells_all, storeR_some, put_none, d2, killV_box, loadV_lp, Nat.reduceLeDiff, boxV_A, List.drop_zero, List.take_succ_cons, List.take_zero, copy1_d, mkAgg_eq, allD_d, allD_nil, consD_some, aggV_some, hne, runOps_g, wantG_bf, Bool.not_false, wantC_b, bin_bneq, beq_self_eq_true, Bool.not_true, evalK_pick, rd_c, pickV_b, Bool.false_eq_true, evalK_un, un_not, Option.map_some, exL_exit, thenC_exit, blockC_exit, restrict_cons, restrict_nil, isC_c, Bool.or_true, bin_add, hw, f_waferlaw5_RiscWords_l0_in]
  · rw [ok] at d1 d2
    obtain ⟨r1, r2, r3⟩ := decF_right hx
    have hd : decR x = decF x := by rw [decR, ok, cond_true]
    have hwd := (decF_word hx).2 ok
    have e1 := encode_yes (H := []) r1 r2 r3
    have t1 := text_call r2 r3
    have t2 := textR_call r2 r3
    rw [hwd] at e1
    rw [← hd] at e1 t1 t2
    have hne := neqI (i := decR x)
    generalize textI (decR x) = T at t1 t2
    generalize decR x = j at d1 d2 e1 t1 t2 hne
    unfold eI at d1 d2 e1 t1 t2
    rw [f_waferlaw5_RiscWords_l0_eq]
    simp only [f_waferlaw5_RiscWords_B0, keepV_osl, keepV_d, exL_seq, exL_ops, runOps_n, evalK_bin, isC_t, Bool.or_self, rd_t, Nat.reduceEqDiff, get_ne, get_eq, readV_d, bin_lss, hlt, decide_true, okS_some, opC_ok, put_d, runOps_nil, thenC_nrm, exL_cond, condC_b, ↓reduceIte, exL_skip, exL_block, evalK_indexAddr, readV_osl, hix, put_cp, evalK_load, readV_cp, loadV_cp_i, evalK_mov, spent_t, evalK_call, List.map_cons, List.map_nil, allLeave_cons, leaves_d, allLeave_nil, Bool.and_self, eCall_f, d1, List.length_nil, callC_some, spentAll_cons, spentAll_nil, Nat.min_self, put_tup, readV_tup, evalK_extract, extV_0, copy_d, extV_1, evalK_allocL, put_box, killLp_cons, killV_d, killV_tup, killV_cp, killV_osl, killLp_nil, evalK_store, readV_box, storeV_lp, cells_agg, List.length_cons, Nat.zero_add, Nat.reduceAdd, ones_cons, vone_d, one_i, one_b, ones_nil, storeB_box, setCells_all, storeR_some, put_none, d2, killV_box, loadV_lp, Nat.reduceLeDiff, boxV_A, List.drop_zero, List.take_succ_cons, List.take_zero, copy1_d, mkAgg_eq, allD_d, allD_nil, consD_some, aggV_some, hne, runOps_g, wantG_bf, Bool.not_false, wantC_b, bin_bneq, beq_self_eq_true, Bool.not_true, evalK_pick, rd_c, pickV_b, Bool.false_eq_true, evalK_un, un_not, Option.map_some, e1, exL_opsD, runOpsD_n, opDC_same, putD_d, putC_some, isC_c, Bool.or_true, bin_neq, runOpsD_g, wantDC_b, t1, t2, bin_sneq, runOpsD_nil, blockC_nrm, restrict_cons, restrict_nil, bin_add, hw, f_waferlaw5_RiscWords_l0_in]
theorem words_end {xs : List D} : blockC 0 [] (f_waferlaw5_RiscWords_l0 pg (.osl xs) (.d (.i .i64 (xs.length : Nat))) (.d (.i .i64 (xs.length : Nat))) [] 0) = some (.nrm, ⟨[], [], 0⟩) := by
  have hlt : ((xs.length : Int) < (xs.length : Int)) = False := by simp
  rw [f_waferlaw5_RiscWords_l0_eq]
  simp only [f_waferlaw5_RiscWords_B0, keepV_osl, keepV_d, exL_seq, exL_ops, runOps_n, evalK_bin, isC_t, Bool.or_self, rd_t, Nat.reduceEqDiff, get_ne, get_eq, readV_d, bin_lss, hlt, decide_false, okS_some, opC_ok, put_d, runOps_nil, thenC_nrm, exL_cond, condC_b, Bool.false_eq_true, ↓reduceIte, exL_exit, thenC_exit, blockC_exit, restrict_nil]
theorem words_law {w : Nat} (hw : w < 4294967296) : callL pg 3 [.d (.i .u32 (w : Int))] [] = some ⟨false, true, .d (.b true), [], 0⟩ := by
  obtain ⟨lo, hk⟩ := known_call
  rw [callL_fn (fn := f_waferlaw5_RiscWords) rfl rfl]
  have hz : min 0 lo = 0 := Nat.zero_min lo
  obtain ⟨x1, h1, q1⟩ := andNot32 (w := w) (m := 65520)
  obtain ⟨x2, h2, q2⟩ := andNot32 (w := w) (m := 16776960)
  have s : blockC 0 [] (f_waferlaw5_RiscWords_l0 pg (.osl [.i .u32 (w : Int), .i .u32 (x1 : Int), .i .u32 (x2 : Int)]) (.d (.i .i64 3)) (.d (.i .i64 0)) [] 0) = some (.nrm, ⟨[], [], 0⟩) := by
    have s0 := words_step (xs := [.i .u32 (w : Int), .i .u32 (x1 : Int), .i .u32 (x2 : Int)]) (i := 0) (x := w) rfl (by simp) hw
    have s1 := words_step (xs := [.i .u32 (w : Int), .i .u32 (x1 : Int), .i .u32 (x2 : Int)]) (i := 1) (x := x1) rfl (by simp) h1
    have s2 := words_step (xs := [.i .u32 (w : Int), .i .u32 (x1 : Int), .i .u32 (x2 : Int)]) (i := 2) (x := x2) rfl (by simp) h2
    have s3 := words_end (xs := [.i .u32 (w : Int), .i .u32 (x1 : Int), .i .u32 (x2 : Int)])
    have t := (s0.trans s1).trans s2
    show blockC 0 [] (f_waferlaw5_RiscWords_l0 pg (.osl [.i .u32 (w : Int), .i .u32 (x1 : Int), .i .u32 (x2 : Int)]) (.d (.i .i64 (([D.i .u32 (w : Int), .i .u32 (x1 : Int), .i .u32 (x2 : Int)].length : Nat) : Int))) (.d (.i .i64 ((0 : Nat) : Int))) [] 0) = _
    rw [t]
    exact s3
  simp only [f_waferlaw5_RiscWords, f_waferlaw5_RiscWords_R1, argEnv_cons, Nat.zero_add, argEnv_nil, List.length_nil, exL_seq, exL_ops, runOps_n, evalK_mov, rd_c, spent_c, opC_ok, put_d, runOps_nil, thenC_nrm, evalK_call, List.map_nil, allLeave_nil, eCall_f, hk, callC_some, spentAll_nil, hz, evalK_un, rd_t, get_eq, readV_d, un_not, Bool.not_true, Option.map_some, okS_some, exL_cond, condC_b, Bool.false_eq_true, ↓reduceIte, exL_skip, reduceCtorEq, get_ne, spent_t, evalK_bin, isC_t, isC_c, Bool.or_true, q1, q2, evalK_buildSlice, dcells_i, List.length_cons, List.reduceReplicate, List.map_cons, Nat.reduceEqDiff, Nat.reduceAdd, Nat.reduceLT, fillD_cons, List.set_cons_zero, List.set_cons_succ, fillD_nil, wfs_cons, one_i, wf_one, wfs_nil, Bool.and_self, slO_some, put_osl, evalK_lenL, readV_osl, lenL_sl, Int.cast_ofNat_Int, exL_block, f_waferlaw5_RiscWords_l0_in, keepV_osl, keepV_d, s, exL_ret, finC_ret, resultVs_cons, resultV_t, ownV_d, resultVs_nil, consO_some, leaveC_1]
  all_goals rfl
theorem instrs_step {xs : List D} {i : Nat} {y : Ins} (hi : xs[i]? = some (eI y)) (hn : xs.length ≤ 10) (r2 : -2147483648 ≤ y.Imm) (r3 : y.Imm < 2147483648) :
    f_waferlaw5_RiscInstrs_l0 pg (.osl xs) (.d (.i .i64 (xs.length : Nat))) (.d (.i .i64 (i : Nat))) [] 0 = f_waferlaw5_RiscInstrs_l0 pg (.osl xs) (.d (.i .i64 (xs.length : Nat))) (.d (.i .i64 ((i + 1 : Nat) : Int))) [] 0 := by
  have hil : i < xs.length := (List.getElem?_eq_some_iff.1 hi).1
  have hlt : ((i : Int) < (xs.length : Int)) = True := eq_true (by omega)
  have hw : wr .i64 ((i : Int) + 1) = ((i + 1 : Nat) : Int) := by rw [wr_i64 (by omega) (by omega)]; omega
  have hix : iaV (.d (.sl xs)) (.d (.i .i64 (i : Nat))) 8 none = some (.cp (eI y)) := iaV_sl (by omega) (by simpa using hi) (eq_true rfl)
  have t1 := text_call r2 r3
  have t2 := textR_call r2 r3
  generalize textI y = T at t1 t2
  cases hr : rightB y
  · have e1 := encode_no (H := []) hr
    obtain ⟨x, e2⟩ := encodeR_no (H := []) hr r2 r3
    unfold eI at t1 t2 e1 e2 hix
    rw [f_waferlaw5_RiscInstrs_l0_eq]
    simp only [f_waferlaw5_RiscInstrs_B0, keepV_osl, keepV_d, exL_seq, exL_ops, runOps_n, evalK_bin, isC_t, Bool.or_self, rd_t, Nat.reduceEqDiff, get_ne, get_eq, readV_d, bin_lss, hlt, decide_true, okS_some, opC_ok, put_d, runOps_nil, thenC_nrm, exL_cond, condC_b, ↓reduceIte, exL_skip, exL_block, evalK_indexAddr, readV_osl, hix, put_cp, evalK_load, readV_cp, List.length_cons, List.length_nil, Nat.zero_add, Nat.reduceAdd, loadV_cp_agg, evalK_allocL, List.map_cons, List.map_nil, put_box, killLp_cons, killV_d, killV_cp, killV_osl, killLp_nil, evalK_store, readV_box, spent_t, storeV_lp, cells_agg, ones_cons, vone_d, one_i, one_b, ones_nil, Bool.and_self, storeB_box, setCells_all, storeR_some, put_none, loadV_lp, Nat.reduceLeDiff, boxV_A, List.drop_zero, List.take_succ_cons, List.take_zero, copy1_d, mkAgg_eq, allD_d, allD_nil, consD_some, aggV_some, evalK_call, allLeave_cons, leaves_d, allLeave_nil, eCall_f, e1, callC_some, spentAll_cons, spentAll_nil, Nat.min_self, put_tup, evalK_mov, readV_tup, evalK_extract, extV_0, copy_d, extV_1, e2, evalK_un, un_not, Bool.not_false, Option.map_some, rd_c, spent_c, exL_opsD, runOpsD_n, opDC_same, putD_d, putC_some, bin_neq, Bool.not_true, runOpsD_g, wantG_bf, wantDC_b, isC_c, Bool.or_true, bin_eql, Int.reduceEq, decide_false, bin_bneq, beq_self_eq_true, evalK_pick, pickV_b, Bool.false_eq_true, wantG_bt, t1, t2, bin_sneq, runOpsD_nil, blockC_nrm, restrict_cons, restrict_nil, bin_add, hw, f_waferlaw5_RiscInstrs_l0_in]
  · have e1 := encode_yes (H := []) hr r2 r3
    have e2 := encodeR_yes (H := []) hr r2 r3
    obtain ⟨w1, w2⟩ := dec_word hr
    have d1 := decode_call (H := []) w1
    have ok := dec_ok hr
    have hd : decR (wordN y) = y := by rw [decR, ok, cond_true, w2]
    rw [hd, ok] at d1
    have hne := neqI (i := y)
    generalize wordN y = w at e1 e2 d1
    unfold eI at t1 t2 e1 e2 hix d1
    rw [f_waferlaw5_RiscInstrs_l0_eq]
    simp only [f_waferlaw5_RiscInstrs_B0, keepV_osl, keepV_d, exL_seq, exL_ops, runOps_n, evalK_bin, isC_t, Bool.or_self, rd_t, Nat.reduceEqDiff, get_ne, get_eq, readV_d, bin_lss, hlt, decide_true, okS_some, opC_ok, put_d, runOps_nil, thenC_nrm, exL_cond, condC_b, ↓reduceIte, exL_skip, exL_block, evalK_indexAddr, readV_osl, hix, put_cp, evalK_load, readV_cp, List.length_cons, List.length_nil, Nat.zero_add, Nat.reduceAdd, loadV_cp_agg, evalK_allocL, List.map_cons, List.map_nil, put_box, killLp_cons, killV_d, killV_cp, killV_osl, killLp_nil, evalK_store, readV_box, spent_t, storeV_lp, cells_agg, ones_cons, vone_d, one_i, one_b, ones_nil, Bool.and_self, storeB_box, setCells_all, storeR_some, put_none, loadV_lp, Nat.reduceLeDiff, boxV_A, List.drop_zero, List.take_succ_cons, List.take_zero, copy1_d, mkAgg_eq, allD_d, allD_nil, consD_some, aggV_some, evalK_call, allLeave_cons, leaves_d, allLeave_nil, eCall_f, e1, callC_some, spentAll_cons, spentAll_nil, Nat.min_self, put_tup, evalK_mov, readV_tup, evalK_extract, extV_0, copy_d, extV_1, e2, evalK_un, un_not, Bool.not_true, Option.map_some, Bool.false_eq_true, exL_opsD, runOpsD_n, opDC_same, putD_d, putC_some, bin_neq, runOpsD_g, wantG_bf, Bool.not_false, wantDC_b, isC_c, Bool.or_true, rd_c, bin_eql, bin_bneq, beq_self_eq_true, evalK_pick, pickV_b, wantG_bt, pickV_f, t1, t2, bin_sneq, runOpsD_nil, rd_mv, takeV_d, spent_mv, d1, killV_tup, killV_undef, killV_box, runOps_g, wantC_b, hne, blockC_nrm, restrict_cons, restrict_nil, bin_add, hw, f_waferlaw5_RiscInstrs_l0_in]
theorem instrs_end {xs : List D} : blockC 1 [] (f_waferlaw5_RiscInstrs_l0 pg (.osl xs) (.d (.i .i64 (xs.length : Nat))) (.d (.i .i64 (xs.length : Nat))) [] 0) = some (.nrm, ⟨[], [], 0⟩) := by
  have hlt : ((xs.length : Int) < (xs.length : Int)) = False := by simp
  rw [f_waferlaw5_RiscInstrs_l0_eq]
  simp only [f_waferlaw5_RiscInstrs_B0, keepV_osl, keepV_d, exL_seq, exL_ops, runOps_n, evalK_bin, isC_t, Bool.or_self, rd_t, Nat.reduceEqDiff, get_ne, get_eq, readV_d, bin_lss, hlt, decide_false, okS_some, opC_ok, put_d, runOps_nil, thenC_nrm, exL_cond, condC_b, Bool.false_eq_true, ↓reduceIte, exL_exit, thenC_exit, blockC_exit, restrict_nil]
theorem instrs_all {y z : Ins} (r2 : -2147483648 ≤ y.Imm) (r3 : y.Imm < 2147483648) (q2 : -2147483648 ≤ z.Imm) (q3 : z.Imm < 2147483648) :
    blockC 1 [] (f_waferlaw5_RiscInstrs_l0 pg (.osl [eI y, eI z]) (.d (.i .i64 2)) (.d (.i .i64 0)) [] 0) = some (.nrm, ⟨[], [], 0⟩) := by
  have s0 := instrs_step (xs := [eI y, eI z]) (i := 0) (y := y) rfl (by simp) r2 r3
  have s1 := instrs_step (xs := [eI y, eI z]) (i := 1) (y := z) rfl (by simp) q2 q3
  have s3 := instrs_end (xs := [eI y, eI z])
  have t := s0.trans s1
  show blockC 1 [] (f_waferlaw5_RiscInstrs_l0 pg (.osl [eI y, eI z]) (.d (.i .i64 (([eI y, eI z].length : Nat) : Int))) (.d (.i .i64 ((0 : Nat) : Int))) [] 0) = _
  rw [t]
  exact s3
theorem and_i32 {a b : Int} : -2147483648 ≤ andI .i32 a b ∧ andI .i32 a b < 2147483648 := by
  unfold andI
  generalize ((BitVec.ofInt (IntKind.bits .i32) a) &&& (BitVec.ofInt (IntKind.bits .i32) b)).toNat = n
  simp [IntKind.wrap, IntKind.bits, IntKind.signed]; omega
theorem shr_i32 {a : Int} (h1 : -2147483648 ≤ a) (h2 : a < 2147483648) : -2147483648 ≤ Int.fdiv a (2 ^ (min (Int.toNat 12) (IntKind.bits .i32))) ∧ Int.fdiv a (2 ^ (min (Int.toNat 12) (IntKind.bits .i32))) < 2147483648 := by
  rw [show min (Int.toNat 12) (IntKind.bits .i32) = 12 from rfl, Int.fdiv_eq_ediv_of_nonneg _ (by omega)]
  omega
end W

set_option linter.unusedSimpArgs false
set_option linter.unusedVariables false
namespace W
open Go (IntKind BinOp UnOp)
set_option maxRecDepth 20000
theorem instrs_law {i : Ins} {k : Int} (hi1 : -2147483648 ≤ i.Imm) (hi2 : i.Imm < 2147483648) : callL pg 4 [.d (eI i), .d (.i .u8 k)] [] = some ⟨false, true, .d (.b true), [], 0⟩ := by
  obtain ⟨lo, hk⟩ := known_call
  rw [callL_fn (fn := f_waferlaw5_RiscInstrs) rfl rfl]
  have hz : min 0 lo = 0 := Nat.zero_min lo
  obtain ⟨F, U, V, A, B, C, Op, Imm⟩ := i
  simp only at hi1 hi2
  have ai := and_i32 (a := Imm) (b := 15)
  have si := shr_i32 hi1 hi2
  obtain ⟨nf, hnf⟩ : ∃ x, x = andI .i64 F 3 := ⟨_, rfl⟩
  obtain ⟨na, hna⟩ : ∃ x, x = andI .i64 A 15 := ⟨_, rfl⟩
  obtain ⟨nb, hnb⟩ : ∃ x, x = andI .i64 B 15 := ⟨_, rfl⟩
  obtain ⟨nc, hnc⟩ : ∃ x, x = andI .i64 C 15 := ⟨_, rfl⟩
  obtain ⟨no, hno⟩ : ∃ x, x = andI .i64 Op 15 := ⟨_, rfl⟩
  obtain ⟨ni, hni⟩ : ∃ x, x = andI .i32 Imm 15 := ⟨_, rfl⟩
  obtain ⟨ns, hns⟩ : ∃ x, x = Int.fdiv Imm (2 ^ (min (Int.toNat 12) (IntKind.bits .i32))) := ⟨_, rfl⟩
  rw [← hni] at ai
  rw [← hns] at si
  have hnf := hnf.symm
  have hna := hna.symm
  have hnb := hnb.symm
  have hnc := hnc.symm
  have hno := hno.symm
  have hni := hni.symm
  have hns := hns.symm
  by_cases f0 : nf = 0
  · subst f0
    by_cases hm : k.tmod 4 = 0
    · have s := instrs_all (y := ⟨F, U, V, A, B, C, Op, Imm⟩) (z := ⟨0, U, V, na, nb, nc, no, ns⟩) hi1 hi2 (by simp only; omega) (by simp only; omega)
      unfold eI at s ⊢
      simp only at s ⊢
      simp only [f_waferlaw5_RiscInstrs, f_waferlaw5_RiscInstrs_R1, argEnv_cons, Nat.zero_add, Nat.reduceAdd, argEnv_nil, List.length_nil, exL_seq, exL_ops, runOps_n, evalK_box, rd_t, get_eq, readV_d, spent_t, cells_agg, List.map_cons, List.map_nil, ones_cons, vone_d, one_i, one_b, ones_nil, Bool.and_self, boxN_t, opC_ok, put_box, killLp_cons, killV_d, killLp_nil, evalK_mov, rd_c, spent_c, put_d, runOps_nil, thenC_nrm, evalK_call, allLeave_nil, eCall_f, hk, callC_some, spentAll_nil, hz, evalK_un, un_not, Bool.not_true, Option.map_some, okS_some, exL_cond, condC_b, Bool.false_eq_true, ↓reduceIte, exL_skip, evalK_load, Nat.reduceEqDiff, get_ne, readV_box, loadV_lp, List.length_cons, Nat.reduceLeDiff, boxV_A, List.drop_zero, List.take_succ_cons, List.take_zero, copy1_d, mkAgg_eq, allD_d, allD_nil, consD_some, aggV_some, evalK_allocL, killV_box, evalK_store, storeV_lp, storeB_box, setCells_all, storeR_some, put_none, exL_opsD, runOpsD_n, evalK_fieldAddr, faV_lp, Nat.add_zero, opDC_same, putD_lp, hasNat_nil, lpD_f, putC_some, readV_lp, boxV_1, List.getElem?_cons_zero, putD_d, evalK_bin, isC_t, isC_c, Bool.or_true, bin_and, hnf, List.getElem?_cons_succ, hna, hnb, hnc, hno, hni, cells_d1, Nat.reduceLT, setCells_1, List.set_cons_zero, putD_none, List.set_cons_succ, runOpsD_nil, put_lp, exL_block, bin_eql, decide_true, blockC_nrm, restrict_cons, reduceCtorEq, keepV_d, keepV_box, restrict_nil, Int.reduceEq, bin_rem, hm, Int.reduceLE, bin_shr, hns, evalK_buildSlice, dcells_agg, List.reduceReplicate, fillD_cons, fillD_nil, wfs_cons, wf_agg, dones_cons, dones_nil, wfs_nil, slO_some, put_osl, evalK_lenL, readV_osl, lenL_sl, Int.cast_ofNat_Int, f_waferlaw5_RiscInstrs_l0_in, keepV_osl, s, exL_ret, finC_ret, resultVs_cons, resultV_t, ownV_d, resultVs_nil, consO_some, leaveC_1]
      all_goals rfl
    · have s := instrs_all (y := ⟨F, U, V, A, B, C, Op, Imm⟩) (z := ⟨0, U, V, na, nb, nc, no, 0⟩) hi1 hi2 (by simp only; omega) (by simp only; omega)
      unfold eI at s ⊢
      simp only at s ⊢
      simp only [f_waferlaw5_RiscInstrs, f_waferlaw5_RiscInstrs_R1, argEnv_cons, Nat.zero_add, Nat.reduceAdd, argEnv_nil, List.length_nil, exL_seq, exL_ops, runOps_n, evalK_box, rd_t, get_eq, readV_d, spent_t, cells_agg, List.map_cons, List.map_nil, ones_cons, vone_d, one_i, one_b, ones_nil, Bool.and_self, boxN_t, opC_ok, put_box, killLp_cons, killV_d, killLp_nil, evalK_mov, rd_c, spent_c, put_d, runOps_nil, thenC_nrm, evalK_call, allLeave_nil, eCall_f, hk, callC_some, spentAll_nil, hz, evalK_un, un_not, Bool.not_true, Option.map_some, okS_some, exL_cond, condC_b, Bool.false_eq_true, ↓reduceIte, exL_skip, evalK_load, Nat.reduceEqDiff, get_ne, readV_box, loadV_lp, List.length_cons, Nat.reduceLeDiff, boxV_A, List.drop_zero, List.take_succ_cons, List.take_zero, copy1_d, mkAgg_eq, allD_d, allD_nil, consD_some, aggV_some, evalK_allocL, killV_box, evalK_store, storeV_lp, storeB_box, setCells_all, storeR_some, put_none, exL_opsD, runOpsD_n, evalK_fieldAddr, faV_lp, Nat.add_zero, opDC_same, putD_lp, hasNat_nil, lpD_f, putC_some, readV_lp, boxV_1, List.getElem?_cons_zero, putD_d, evalK_bin, isC_t, isC_c, Bool.or_true, bin_and, hnf, List.getElem?_cons_succ, hna, hnb, hnc, hno, hni, cells_d1, Nat.reduceLT, setCells_1, List.set_cons_zero, putD_none, List.set_cons_succ, runOpsD_nil, put_lp, exL_block, bin_eql, decide_true, blockC_nrm, restrict_cons, reduceCtorEq, keepV_d, keepV_box, restrict_nil, Int.reduceEq, bin_rem, hm, decide_false, evalK_buildSlice, dcells_agg, List.reduceReplicate, fillD_cons, fillD_nil, wfs_cons, wf_agg, dones_cons, dones_nil, wfs_nil, slO_some, put_osl, evalK_lenL, readV_osl, lenL_sl, Int.cast_ofNat_Int, f_waferlaw5_RiscInstrs_l0_in, keepV_osl, s, exL_ret, finC_ret, resultVs_cons, resultV_t, ownV_d, resultVs_nil, consO_some, leaveC_1]
      all_goals rfl
  by_cases f1 : nf = 1
  · subst f1
    by_cases hm : k.tmod 4 = 0
    · have s := instrs_all (y := ⟨F, U, V, A, B, C, Op, Imm⟩) (z := ⟨1, U, V, na, nb, 0, no, ns⟩) hi1 hi2 (by simp only; omega) (by simp only; omega)
      unfold eI at s ⊢
      simp only at s ⊢
      simp only [f_waferlaw5_RiscInstrs, f_waferlaw5_RiscInstrs_R1, argEnv_cons, Nat.zero_add, Nat.reduceAdd, argEnv_nil, List.length_nil, exL_seq, exL_ops, runOps_n, evalK_box, rd_t, get_eq, readV_d, spent_t, cells_agg, List.map_cons, List.map_nil, ones_cons, vone_d, one_i, one_b, ones_nil, Bool.and_self, boxN_t, opC_ok, put_box, killLp_cons, killV_d, killLp_nil, evalK_mov, rd_c, spent_c, put_d, runOps_nil, thenC_nrm, evalK_call, allLeave_nil, eCall_f, hk, callC_some, spentAll_nil, hz, evalK_un, un_not, Bool.not_true, Option.map_some, okS_some, exL_cond, condC_b, Bool.false_eq_true, ↓reduceIte, exL_skip, evalK_load, Nat.reduceEqDiff, get_ne, readV_box, loadV_lp, List.length_cons, Nat.reduceLeDiff, boxV_A, List.drop_zero, List.take_succ_cons, List.take_zero, copy1_d, mkAgg_eq, allD_d, allD_nil, consD_some, aggV_some, evalK_allocL, killV_box, evalK_store, storeV_lp, storeB_box, setCells_all, storeR_some, put_none, exL_opsD, runOpsD_n, evalK_fieldAddr, faV_lp, Nat.add_zero, opDC_same, putD_lp, hasNat_nil, lpD_f, putC_some, readV_lp, boxV_1, List.getElem?_cons_zero, putD_d, evalK_bin, isC_t, isC_c, Bool.or_true, bin_and, hnf, List.getElem?_cons_succ, hna, hnb, hnc, hno, hni, cells_d1, Nat.reduceLT, setCells_1, List.set_cons_zero, putD_none, List.set_cons_succ, runOpsD_nil, put_lp, exL_block, bin_eql, Int.reduceEq, decide_false, decide_true, blockC_nrm, restrict_cons, reduceCtorEq, keepV_d, keepV_box, restrict_nil, bin_rem, hm, Int.reduceLE, bin_shr, hns, evalK_buildSlice, dcells_agg, List.reduceReplicate, fillD_cons, fillD_nil, wfs_cons, wf_agg, dones_cons, dones_nil, wfs_nil, slO_some, put_osl, evalK_lenL, readV_osl, lenL_sl, Int.cast_ofNat_Int, f_waferlaw5_RiscInstrs_l0_in, keepV_osl, s, exL_ret, finC_ret, resultVs_cons, resultV_t, ownV_d, resultVs_nil, consO_some, leaveC_1]
      all_goals rfl
    · have s := instrs_all (y := ⟨F, U, V, A, B, C, Op, Imm⟩) (z := ⟨1, U, V, na, nb, 0, no, ni⟩) hi1 hi2 (by simp only; omega) (by simp only; omega)
      unfold eI at s ⊢
      simp only at s ⊢
      simp only [f_waferlaw5_RiscInstrs, f_waferlaw5_RiscInstrs_R1, argEnv_cons, Nat.zero_add, Nat.reduceAdd, argEnv_nil, List.length_nil, exL_seq, exL_ops, runOps_n, evalK_box, rd_t, get_eq, readV_d, spent_t, cells_agg, List.map_cons, List.map_nil, ones_cons, vone_d, one_i, one_b, ones_nil, Bool.and_self, boxN_t, opC_ok, put_box, killLp_cons, killV_d, killLp_nil, evalK_mov, rd_c, spent_c, put_d, runOps_nil, thenC_nrm, evalK_call, allLeave_nil, eCall_f, hk, callC_some, spentAll_nil, hz, evalK_un, un_not, Bool.not_true, Option.map_some, okS_some, exL_cond, condC_b, Bool.false_eq_true, ↓reduceIte, exL_skip, evalK_load, Nat.reduceEqDiff, get_ne, readV_box, loadV_lp, List.length_cons, Nat.reduceLeDiff, boxV_A, List.drop_zero, List.take_succ_cons, List.take_zero, copy1_d, mkAgg_eq, allD_d, allD_nil, consD_some, aggV_some, evalK_allocL, killV_box, evalK_store, storeV_lp, storeB_box, setCells_all, storeR_some, put_none, exL_opsD, runOpsD_n, evalK_fieldAddr, faV_lp, Nat.add_zero, opDC_same, putD_lp, hasNat_nil, lpD_f, putC_some, readV_lp, boxV_1, List.getElem?_cons_zero, putD_d, evalK_bin, isC_t, isC_c, Bool.or_true, bin_and, hnf, List.getElem?_cons_succ, hna, hnb, hnc, hno, hni, cells_d1, Nat.reduceLT, setCells_1, List.set_cons_zero, putD_none, List.set_cons_succ, runOpsD_nil, put_lp, exL_block, bin_eql, Int.reduceEq, decide_false, decide_true, blockC_nrm, restrict_cons, reduceCtorEq, keepV_d, keepV_box, restrict_nil, bin_rem, hm, evalK_buildSlice, dcells_agg, List.reduceReplicate, fillD_cons, fillD_nil, wfs_cons, wf_agg, dones_cons, dones_nil, wfs_nil, slO_some, put_osl, evalK_lenL, readV_osl, lenL_sl, Int.cast_ofNat_Int, f_waferlaw5_RiscInstrs_l0_in, keepV_osl, s, exL_ret, finC_ret, resultVs_cons, resultV_t, ownV_d, resultVs_nil, consO_some, leaveC_1]
      all_goals rfl
  by_cases f2 : nf = 2
  · subst f2
    by_cases hm : k.tmod 4 = 0
    · have s := instrs_all (y := ⟨F, U, V, A, B, C, Op, Imm⟩) (z := ⟨2, U, V, na, nb, 0, 0, ns⟩) hi1 hi2 (by simp only; omega) (by simp only; omega)
      unfold eI at s ⊢
      simp only at s ⊢
      simp only [f_waferlaw5_RiscInstrs, f_waferlaw5_RiscInstrs_R1, argEnv_cons, Nat.zero_add, Nat.reduceAdd, argEnv_nil, List.length_nil, exL_seq, exL_ops, runOps_n, evalK_box, rd_t, get_eq, readV_d, spent_t, cells_agg, List.map_cons, List.map_nil, ones_cons, vone_d, one_i, one_b, ones_nil, Bool.and_self, boxN_t, opC_ok, put_box, killLp_cons, killV_d, killLp_nil, evalK_mov, rd_c, spent_c, put_d, runOps_nil, thenC_nrm, evalK_call, allLeave_nil, eCall_f, hk, callC_some, spentAll_nil, hz, evalK_un, un_not, Bool.not_true, Option.map_some, okS_some, exL_cond, condC_b, Bool.false_eq_true, ↓reduceIte, exL_skip, evalK_load, Nat.reduceEqDiff, get_ne, readV_box, loadV_lp, List.length_cons, Nat.reduceLeDiff, boxV_A, List.drop_zero, List.take_succ_cons, List.take_zero, copy1_d, mkAgg_eq, allD_d, allD_nil, consD_some, aggV_some, evalK_allocL, killV_box, evalK_store, storeV_lp, storeB_box, setCells_all, storeR_some, put_none, exL_opsD, runOpsD_n, evalK_fieldAddr, faV_lp, Nat.add_zero, opDC_same, putD_lp, hasNat_nil, lpD_f, putC_some, readV_lp, boxV_1, List.getElem?_cons_zero, putD_d, evalK_bin, isC_t, isC_c, Bool.or_true, bin_and, hnf, List.getElem?_cons_succ, hna, hnb, hnc, hno, hni, cells_d1, Nat.reduceLT, setCells_1, List.set_cons_zero, putD_none, List.set_cons_succ, runOpsD_nil, put_lp, exL_block, bin_eql, Int.reduceEq, decide_false, decide_true, blockC_nrm, restrict_cons, reduceCtorEq, keepV_d, keepV_box, restrict_nil, bin_rem, hm, Int.reduceLE, bin_shr, hns, evalK_buildSlice, dcells_agg, List.reduceReplicate, fillD_cons, fillD_nil, wfs_cons, wf_agg, dones_cons, dones_nil, wfs_nil, slO_some, put_osl, evalK_lenL, readV_osl, lenL_sl, Int.cast_ofNat_Int, f_waferlaw5_RiscInstrs_l0_in, keepV_osl, s, exL_ret, finC_ret, resultVs_cons, resultV_t, ownV_d, resultVs_nil, consO_some, leaveC_1]
      all_goals rfl
    · have s := instrs_all (y := ⟨F, U, V, A, B, C, Op, Imm⟩) (z := ⟨2, U, V, na, nb, 0, 0, ni⟩) hi1 hi2 (by simp only; omega) (by simp only; omega)
      unfold eI at s ⊢
      simp only at s ⊢
      simp only [f_waferlaw5_RiscInstrs, f_waferlaw5_RiscInstrs_R1, argEnv_cons, Nat.zero_add, Nat.reduceAdd, argEnv_nil, List.length_nil, exL_seq, exL_ops, runOps_n, evalK_box, rd_t, get_eq, readV_d, spent_t, cells_agg, List.map_cons, List.map_nil, ones_cons, vone_d, one_i, one_b, ones_nil, Bool.and_self, boxN_t, opC_ok, put_box, killLp_cons, killV_d, killLp_nil, evalK_mov, rd_c, spent_c, put_d, runOps_nil, thenC_nrm, evalK_call, allLeave_nil, eCall_f, hk, callC_some, spentAll_nil, hz, evalK_un, un_not, Bool.not_true, Option.map_some, okS_some, exL_cond, condC_b, Bool.false_eq_true, ↓reduceIte, exL_skip, evalK_load, Nat.reduceEqDiff, get_ne, readV_box, loadV_lp, List.length_cons, Nat.reduceLeDiff, boxV_A, List.drop_zero, List.take_succ_cons, List.take_zero, copy1_d, mkAgg_eq, allD_d, allD_nil, consD_some, aggV_some, evalK_allocL, killV_box, evalK_store, storeV_lp, storeB_box, setCells_all, storeR_some, put_none, exL_opsD, runOpsD_n, evalK_fieldAddr, faV_lp, Nat.add_zero, opDC_same, putD_lp, hasNat_nil, lpD_f, putC_some, readV_lp, boxV_1, List.getElem?_cons_zero, putD_d, evalK_bin, isC_t, isC_c, Bool.or_true, bin_and, hnf, List.getElem?_cons_succ, hna, hnb, hnc, hno, hni, cells_d1, Nat.reduceLT, setCells_1, List.set_cons_zero, putD_none, List.set_cons_succ, runOpsD_nil, put_lp, exL_block, bin_eql, Int.reduceEq, decide_false, decide_true, blockC_nrm, restrict_cons, reduceCtorEq, keepV_d, keepV_box, restrict_nil, bin_rem, hm, evalK_buildSlice, dcells_agg, List.reduceReplicate, fillD_cons, fillD_nil, wfs_cons, wf_agg, dones_cons, dones_nil, wfs_nil, slO_some, put_osl, evalK_lenL, readV_osl, lenL_sl, Int.cast_ofNat_Int, f_waferlaw5_RiscInstrs_l0_in, keepV_osl, s, exL_ret, finC_ret, resultVs_cons, resultV_t, ownV_d, resultVs_nil, consO_some, leaveC_1]
      all_goals rfl
  cases U
  · by_cases hm : k.tmod 4 = 0
    · have s := instrs_all (y := ⟨F, false, V, A, B, C, Op, Imm⟩) (z := ⟨nf, false, V, na, 0, nc, 0, ns⟩) hi1 hi2 (by simp only; omega) (by simp only; omega)
      unfold eI at s ⊢
      simp only at s ⊢
      simp only [f_waferlaw5_RiscInstrs, f_waferlaw5_RiscInstrs_R1, argEnv_cons, Nat.zero_add, Nat.reduceAdd, argEnv_nil, List.length_nil, exL_seq, exL_ops, runOps_n, evalK_box, rd_t, get_eq, readV_d, spent_t, cells_agg, List.map_cons, List.map_nil, ones_cons, vone_d, one_i, one_b, ones_nil, Bool.and_self, boxN_t, opC_ok, put_box, killLp_cons, killV_d, killLp_nil, evalK_mov, rd_c, spent_c, put_d, runOps_nil, thenC_nrm, evalK_call, allLeave_nil, eCall_f, hk, callC_some, spentAll_nil, hz, evalK_un, un_not, Bool.not_true, Option.map_some, okS_some, exL_cond, condC_b, Bool.false_eq_true, ↓reduceIte, exL_skip, evalK_load, Nat.reduceEqDiff, get_ne, readV_box, loadV_lp, List.length_cons, Nat.reduceLeDiff, boxV_A, List.drop_zero, List.take_succ_cons, List.take_zero, copy1_d, mkAgg_eq, allD_d, allD_nil, consD_some, aggV_some, evalK_allocL, killV_box, evalK_store, storeV_lp, storeB_box, setCells_all, storeR_some, put_none, exL_opsD, runOpsD_n, evalK_fieldAddr, faV_lp, Nat.add_zero, opDC_same, putD_lp, hasNat_nil, lpD_f, putC_some, readV_lp, boxV_1, List.getElem?_cons_zero, putD_d, evalK_bin, isC_t, isC_c, Bool.or_true, bin_and, hnf, List.getElem?_cons_succ, hna, hnb, hnc, hno, hni, cells_d1, Nat.reduceLT, setCells_1, List.set_cons_zero, putD_none, List.set_cons_succ, runOpsD_nil, put_lp, exL_block, bin_eql, f0, decide_false, f1, f2, blockC_nrm, restrict_cons, reduceCtorEq, keepV_d, keepV_box, restrict_nil, Int.reduceEq, bin_rem, hm, decide_true, Int.reduceLE, bin_shr, hns, evalK_buildSlice, dcells_agg, List.reduceReplicate, fillD_cons, fillD_nil, wfs_cons, wf_agg, dones_cons, dones_nil, wfs_nil, slO_some, put_osl, evalK_lenL, readV_osl, lenL_sl, Int.cast_ofNat_Int, f_waferlaw5_RiscInstrs_l0_in, keepV_osl, s, exL_ret, finC_ret, resultVs_cons, resultV_t, ownV_d, resultVs_nil, consO_some, leaveC_1]
      all_goals rfl
    · have s := instrs_all (y := ⟨F, false, V, A, B, C, Op, Imm⟩) (z := ⟨nf, false, V, na, 0, nc, 0, ni⟩) hi1 hi2 (by simp only; omega) (by simp only; omega)
      unfold eI at s ⊢
      simp only at s ⊢
      simp only [f_waferlaw5_RiscInstrs, f_waferlaw5_RiscInstrs_R1, argEnv_cons, Nat.zero_add, Nat.reduceAdd, argEnv_nil, List.length_nil, exL_seq, exL_ops, runOps_n, evalK_box, rd_t, get_eq, readV_d, spent_t, cells_agg, List.map_cons, List.map_nil, ones_cons, vone_d, one_i, one_b, ones_nil, Bool.and_self, boxN_t, opC_ok, put_box, killLp_cons, killV_d, killLp_nil, evalK_mov, rd_c, spent_c, put_d, runOps_nil, thenC_nrm, evalK_call, allLeave_nil, eCall_f, hk, callC_some, spentAll_nil, hz, evalK_un, un_not, Bool.not_true, Option.map_some, okS_some, exL_cond, condC_b, Bool.false_eq_true, ↓reduceIte, exL_skip, evalK_load, Nat.reduceEqDiff, get_ne, readV_box, loadV_lp, List.length_cons, Nat.reduceLeDiff, boxV_A, List.drop_zero, List.take_succ_cons, List.take_zero, copy1_d, mkAgg_eq, allD_d, allD_nil, consD_some, aggV_some, evalK_allocL, killV_box, evalK_store, storeV_lp, storeB_box, setCells_all, storeR_some, put_none, exL_opsD, runOpsD_n, evalK_fieldAddr, faV_lp, Nat.add_zero, opDC_same, putD_lp, hasNat_nil, lpD_f, putC_some, readV_lp, boxV_1, List.getElem?_cons_zero, putD_d, evalK_bin, isC_t, isC_c, Bool.or_true, bin_and, hnf, List.getElem?_cons_succ, hna, hnb, hnc, hno, hni, cells_d1, Nat.reduceLT, setCells_1, List.set_cons_zero, putD_none, List.set_cons_succ, runOpsD_nil, put_lp, exL_block, bin_eql, f0, decide_false, f1, f2, blockC_nrm, restrict_cons, reduceCtorEq, keepV_d, keepV_box, restrict_nil, Int.reduceEq, bin_rem, hm, evalK_buildSlice, dcells_agg, List.reduceReplicate, fillD_cons, fillD_nil, wfs_cons, wf_agg, dones_cons, dones_nil, wfs_nil, slO_some, put_osl, evalK_lenL, readV_osl, lenL_sl, Int.cast_ofNat_Int, f_waferlaw5_RiscInstrs_l0_in, keepV_osl, s, exL_ret, finC_ret, resultVs_cons, resultV_t, ownV_d, resultVs_nil, consO_some, leaveC_1]
      all_goals rfl
  · by_cases hm : k.tmod 4 = 0
    · have s := instrs_all (y := ⟨F, true, V, A, B, C, Op, Imm⟩) (z := ⟨nf, true, V, na, 0, 0, 0, ns⟩) hi1 hi2 (by simp only; omega) (by simp only; omega)
      unfold eI at s ⊢
      simp only at s ⊢
      simp only [f_waferlaw5_RiscInstrs, f_waferlaw5_RiscInstrs_R1, argEnv_cons, Nat.zero_add, Nat.reduceAdd, argEnv_nil, List.length_nil, exL_seq, exL_ops, runOps_n, evalK_box, rd_t, get_eq, readV_d, spent_t, cells_agg, List.map_cons, List.map_nil, ones_cons, vone_d, one_i, one_b, ones_nil, Bool.and_self, boxN_t, opC_ok, put_box, killLp_cons, killV_d, killLp_nil, evalK_mov, rd_c, spent_c, put_d, runOps_nil, thenC_nrm, evalK_call, allLeave_nil, eCall_f, hk, callC_some, spentAll_nil, hz, evalK_un, un_not, Bool.not_true, Option.map_some, okS_some, exL_cond, condC_b, Bool.false_eq_true, ↓reduceIte, exL_skip, evalK_load, Nat.reduceEqDiff, get_ne, readV_box, loadV_lp, List.length_cons, Nat.reduceLeDiff, boxV_A, List.drop_zero, List.take_succ_cons, List.take_zero, copy1_d, mkAgg_eq, allD_d, allD_nil, consD_some, aggV_some, evalK_allocL, killV_box, evalK_store, storeV_lp, storeB_box, setCells_all, storeR_some, put_none, exL_opsD, runOpsD_n, evalK_fieldAddr, faV_lp, Nat.add_zero, opDC_same, putD_lp, hasNat_nil, lpD_f, putC_some, readV_lp, boxV_1, List.getElem?_cons_zero, putD_d, evalK_bin, isC_t, isC_c, Bool.or_true, bin_and, hnf, List.getElem?_cons_succ, hna, hnb, hnc, hno, hni, cells_d1, Nat.reduceLT, setCells_1, List.set_cons_zero, putD_none, List.set_cons_succ, runOpsD_nil, put_lp, exL_block, bin_eql, f0, decide_false, f1, f2, blockC_nrm, restrict_cons, reduceCtorEq, keepV_d, keepV_box, restrict_nil, Int.reduceEq, bin_rem, hm, decide_true, Int.reduceLE, bin_shr, hns, evalK_buildSlice, dcells_agg, List.reduceReplicate, fillD_cons, fillD_nil, wfs_cons, wf_agg, dones_cons, dones_nil, wfs_nil, slO_some, put_osl, evalK_lenL, readV_osl, lenL_sl, Int.cast_ofNat_Int, f_waferlaw5_RiscInstrs_l0_in, keepV_osl, s, exL_ret, finC_ret, resultVs_cons, resultV_t, ownV_d, resultVs_nil, consO_some, leaveC_1]
      all_goals rfl
    · have s := instrs_all (y := ⟨F, true, V, A, B, C, Op, Imm⟩) (z := ⟨nf, true, V, na, 0, 0, 0, ni⟩) hi1 hi2 (by simp only; omega) (by simp only; omega)
      unfold eI at s ⊢
      simp only at s ⊢
      simp only [f_waferlaw5_RiscInstrs, f_waferlaw5_RiscInstrs_R1, argEnv_cons, Nat.zero_add, Nat.reduceAdd, argEnv_nil, List.length_nil, exL_seq, exL_ops, runOps_n, evalK_box, rd_t, get_eq, readV_d, spent_t, cells_agg, List.map_cons, List.map_nil, ones_cons, vone_d, one_i, one_b, ones_nil, Bool.and_self, boxN_t, opC_ok, put_box, killLp_cons, killV_d, killLp_nil, evalK_mov, rd_c, spent_c, put_d, runOps_nil, thenC_nrm, evalK_call, allLeave_nil, eCall_f, hk, callC_some, spentAll_nil, hz, evalK_un, un_not, Bool.not_true, Option.map_some, okS_some, exL_cond, condC_b, Bool.false_eq_true, ↓reduceIte, exL_skip, evalK_load, Nat.reduceEqDiff, get_ne, readV_box, loadV_lp, List.length_cons, Nat.reduceLeDiff, boxV_A, List.drop_zero, List.take_succ_cons, List.take_zero, copy1_d, mkAgg_eq, allD_d, allD_nil, consD_some, aggV_some, evalK_allocL, killV_box, evalK_store, storeV_lp, storeB_box, setCells_all, storeR_some, put_none, exL_opsD, runOpsD_n, evalK_fieldAddr, faV_lp, Nat.add_zero, opDC_same, putD_lp, hasNat_nil, lpD_f, putC_some, readV_lp, boxV_1, List.getElem?_cons_zero, putD_d, evalK_bin, isC_t, isC_c, Bool.or_true, bin_and, hnf, List.getElem?_cons_succ, hna, hnb, hnc, hno, hni, cells_d1, Nat.reduceLT, setCells_1, List.set_cons_zero, putD_none, List.set_cons_succ, runOpsD_nil, put_lp, exL_block, bin_eql, f0, decide_false, f1, f2, blockC_nrm, restrict_cons, reduceCtorEq, keepV_d, keepV_box, restrict_nil, Int.reduceEq, bin_rem, hm, evalK_buildSlice, dcells_agg, List.reduceReplicate, fillD_cons, fillD_nil, wfs_cons, wf_agg, dones_cons, dones_nil, wfs_nil, slO_some, put_osl, evalK_lenL, readV_osl, lenL_sl, Int.cast_ofNat_Int, f_waferlaw5_RiscInstrs_l0_in, keepV_osl, s, exL_ret, finC_ret, resultVs_cons, resultV_t, ownV_d, resultVs_nil, consO_some, leaveC_1]
      all_goals rfl
end W

/- The contract of strings.Join at this program, laid by the shelf's program. -/
namespace Go.Proofs
open Go.Shelf
def Tryd.lays156_ren : Go.Shelf.Ren := ⟨fun | 156 => 22 | 165 => 31 | 166 => 32 | 169 => 33 | 240 => 37 | 241 => 38 | 276 => 44 | 277 => 45 | n => n, fun | 31 => 45 | 9 => 9 | 3 => 3 | 4 => 4 | 0 => 0 | 20 => 20 | 72 => 57 | 76 => 61 | 70 => 54 | 37 => 55 | 75 => 60 | 127 => 68 | 164 => 80 | 5 => 5 | 80 => 63 | n => n, fun | n => n⟩
theorem Tryd.lays156 : Go.Proofs.Lays.n156 Tryd.prog Tryd.lays156_ren := {
  mixed := by kernel_rfl
  f156 := Tryd.func22.trans (congrArg some (by kernel_rfl))
  f165 := Tryd.func31.trans (congrArg some (by kernel_rfl))
  f166 := Tryd.func32.trans (congrArg some (by kernel_rfl))
  f169 := Tryd.func33.trans (congrArg some (by kernel_rfl))
  f240 := Tryd.func37.trans (congrArg some (by kernel_rfl))
  f241 := Tryd.func38.trans (congrArg some (by kernel_rfl))
  f276 := Tryd.func44.trans (congrArg some (by kernel_rfl))
  f277 := Tryd.func45.trans (congrArg some (by kernel_rfl))
  t0 := Tryd.underlying0
  a0 := Tryd.isAgg0
  z0 := Tryd.sizeOf0
  v0 := Tryd.zeroValue0
  t3 := Tryd.underlying3
  a3 := Tryd.isAgg3
  z3 := Tryd.sizeOf3
  v3 := Tryd.zeroValue3
  t4 := Tryd.underlying4
  a4 := Tryd.isAgg4
  z4 := Tryd.sizeOf4
  v4 := Tryd.zeroValue4
  t9 := Tryd.underlying9
  a9 := Tryd.isAgg9
  z9 := Tryd.sizeOf9
  v9 := Tryd.zeroValue9
  t20 := Tryd.underlying20
  a20 := Tryd.isAgg20
  z20 := Tryd.sizeOf20
  v20 := Tryd.zeroValue20
  t31 := Tryd.underlying45
  a31 := Tryd.isAgg45
  z31 := Tryd.sizeOf45
  v31 := Tryd.zeroValue45
  t37 := Tryd.underlying55
  a37 := Tryd.isAgg55
  z37 := Tryd.sizeOf55
  v37 := Tryd.zeroValue55
  t70 := Tryd.underlying54
  a70 := Tryd.isAgg54
  z70 := Tryd.sizeOf54
  v70 := Tryd.zeroValue54
  t72 := Tryd.underlying57
  a72 := Tryd.isAgg57
  z72 := Tryd.sizeOf57
  v72 := Tryd.zeroValue57
  t75 := Tryd.underlying60
  a75 := Tryd.isAgg60
  z75 := Tryd.sizeOf60
  v75 := Tryd.zeroValue60
  t76 := Tryd.underlying61
  a76 := Tryd.isAgg61
  z76 := Tryd.sizeOf61
  v76 := Tryd.zeroValue61
  t127 := Tryd.underlying68
  a127 := Tryd.isAgg68
  z127 := Tryd.sizeOf68
  v127 := Tryd.zeroValue68
  t164 := Tryd.underlying80
  a164 := Tryd.isAgg80
  z164 := Tryd.sizeOf80
  v164 := Tryd.zeroValue80 }
theorem Tryd.Builder_Extra_156 : Builder.Extra Tryd.prog Tryd.lays156_ren := {
  sizeBuilder := by kernel_rfl
  liesBuilder := by kernel_rfl
  t5 := Tryd.underlying5
  a5 := Tryd.isAgg5
  z5 := Tryd.sizeOf5
  v5 := Tryd.zeroValue5
  infoByte := by kernel_rfl
  cellsByte := by kernel_rfl
  sizeByte := by kernel_rfl
  neB5 := by decide }
open Go.RowKit in
/-- No element: the empty string; the world is as it was. (Whatever the slice's address and capacity: a nil slice too.) (LAID: no walk: one application.) -/
theorem Tryd.strings_Join_none (a : Option Addr) (c : Nat) (sep : ByteArray) (w : World) :
    Calls Tryd.prog 22 #[.slice a 0 c, .string sep] w fun e w' => e = .returned (.string ⟨#[]⟩) ∧ w' = w := Any.strings_Join_none Tryd.lays156 Tryd.Builder_Extra_156 a c sep w
open Go.RowKit in
/-- strings.Join: "Join concatenates the elements of its first argument to create a single string. The separator string sep is placed between elements in the resulting string.": HOWEVER MANY ELEMENTS. Below the heap's end the world is as it was. (LAID: no walk: one application.) -/
theorem Tryd.strings_Join (bk o c : Nat) (xs : List ByteArray) (sep : ByteArray) (w : World) (hcells : ∀ (j : Nat) x, xs[j]? = some x → w.cell? ⟨bk, o + j, none⟩ = some (.string x)) (hbk : bk < w.heap.size) (hN : xs.length ≤ 140737488355328) (hcap : xs.length ≤ c) (hlen : (Lib.join (xs.map (·.data.toList)) sep.data.toList).length ≤ 140737488355328) :
    Calls Tryd.prog 22 #[.slice (some ⟨bk, o, none⟩) xs.length c, .string sep] w fun e w' => e = .returned (.string ⟨(Lib.join (xs.map (·.data.toList)) sep.data.toList).toArray⟩) ∧ Below w.heap.size w w' := Any.strings_Join Tryd.lays156 Tryd.Builder_Extra_156 bk o c xs sep w hcells hbk hN hcap hlen
theorem Tryd.joinC : W.JoinC Tryd.prog 22 := fun bk o c xs sep w h1 h2 h3 h4 h5 => Tryd.strings_Join bk o c xs sep w h1 h2 h3 h4 h5
end Go.Proofs

/-
  From the small semantics to a law's statement: what is read stays; the answer is true.
-/
set_option linter.unusedSimpArgs false
set_option linter.unusedVariables false
namespace W
open Go (World Value Addr IntKind Program TypeId FuncId Operand Act Oper Next Result Sem Ending Exit Code Func DataW MemPlace Calls trodAll_cons_mk)
open Go.ChangeShapes Go.RowKit Go.WideShapes Go.ChangeAt

section
variable {P : Program} {Hh : Type} {enc : TypeId × Value → Hh}

theorem sameAt_old {W W' : World} (hb : ∀ b, b < W.heap.size → W'.heap[b]? = W.heap[b]?) {p : MemPlace} (hp : p.block < W.heap.size) : W.sameAt W' p := by
  cases p with
  | cell b o => exact cell_of_heap (hb b hp) o
  | map b => exact hb b hp

/-- What was read reads again. -/
theorem trodAll_stays (hl : Go.laidOutB P = true) {W W' : World} (hb : ∀ b, b < W.heap.size → W'.heap[b]? = W.heap[b]?) {sp : Nat → Bool} : ∀ {ts : List TypeId} {vs : List Value} {ds : List (DataW Hh)} {ps : List MemPlace}, (∀ t ∈ ts, P.readableRec t = true ∧ t < P.types.size) →
    DataW.TrodAll enc P W 0 (fun _ => true) true ts vs ds ps → (∀ p ∈ ps, p.block < W.heap.size) → (∀ p ∈ ps, sp p.block = true) → DataW.TrodAll enc P W' 0 sp true ts vs ds ps
  | [], vs, ds, ps, hr, h, hlt, hs => by
    obtain ⟨rfl, rfl, rfl⟩ := trodAll_nil h
    exact trodAll_mk0
  | t :: ts, vs, ds, ps, hr, h, hlt, hs => by
    obtain ⟨v, vs', d, ds', p, q, rfl, rfl, rfl, hd, hrest⟩ := trodAll_cons h
    refine trodAll_cons_mk (Go.WideElems.Trod_stays hl (hr t (by simp)).1 (hr t (by simp)).2 hd (fun x hx => sameAt_old hb (hlt x (by simp [hx]))) (fun x hx => hs x (by simp [hx])))
      (trodAll_stays hl hb (fun u hu => hr u (by simp [hu])) hrest (fun x hx => hlt x (by simp [hx])) (fun x hx => hs x (by simp [hx])))

/-- A law's post: it has answered true, and nothing of what was there has turned. -/
theorem law_post {f : Func} {s : Go.ChangeSpec} {apart fresh handsOn again : Bool} {W W' : World} {args : Array Value} {ds gs : List (DataW Hh)} {before : List MemPlace} {tb : TypeId} (hvars : s.vars = [])
    (hW : DataW.Whole enc P f.params.toList s.vars apart W args.toList ds gs before) (hs : s.fn Hh ds = { results := [.lit (.bool true)], args := ds }) (hres : f.resultTypes = #[tb]) (htb : P.underlying tb = some .bool)
    (hl : Go.laidOutB P = true) (hread : ∀ t ∈ f.params.toList, P.readableRec t = true ∧ t < P.types.size)
    (hio : W'.os = W.os ∧ W'.output = W.output) (hb : ∀ b, b < W.heap.size → W'.heap[b]? = W.heap[b]?) :
    s.post enc P f apart fresh handsOn again W args (.bool true) W' := by
  have hlt : ∀ p ∈ before, p.block < W.heap.size := fun p hp => by simpa using hW.lt p hp
  have hW' := hW
  obtain ⟨p, q, hA, hV, rfl, hfz, hnd⟩ := hW
  rw [hvars] at hV
  obtain ⟨rfl, rfl⟩ := trodVars_none hV
  have hfn : s.fn Hh (ds ++ []) = { results := [.lit (.bool true)], args := ds } := by rw [List.append_nil]; exact hs
  have hargs : ∀ sp : Nat → Bool, (∀ x ∈ p ++ [], sp x.block = true) → DataW.TrodAll enc P W' 0 sp true f.params.toList args.toList ds p := fun sp hsp =>
    trodAll_stays hl hb hread hA (fun x hx => hlt x (by simp [hx])) (fun x hx => hsp x (by simp [hx]))
  have hk : W.keptBut W' (fun _ => False) := by
    refine ⟨hio.1, hio.2, fun i hi => ?_⟩
    rw [hb i hi]
    cases hq : W.heap[i]? with
    | none => rfl
    | some o => cases o <;> first | rfl | exact ⟨rfl, rfl, rfl, fun _ _ => rfl⟩ | exact .inr ⟨rfl, rfl⟩
  have hresT : ∀ (b : Nat) (sp : Nat → Bool) (hd : Bool), DataW.TrodAll enc P W' b sp hd f.resultTypes.toList ((Value.bool true).resultList f.resultTypes.size) [.lit (.bool true)] [] := fun b sp hd => by
    rw [hres]
    exact trodAll_cons_mk (shut_bool htb _) trodAll_mk0
  have hfz' : ∀ a : Addr, a.block < W.heap.size → W'.frozen? a = W.frozen? a := fun a ha => by simp only [World.frozen?, hb a.block ha]
  have hres2 : ∀ (b : Nat) (sp : Nat → Bool) (hd : Bool), DataW.TrodAll enc P W' b sp hd f.resultTypes.toList ((Value.bool true).resultList f.resultTypes.size) (s.fn Hh (ds ++ [])).results [] := fun b sp hd => by rw [hfn]; exact hresT b sp hd
  have hargs2 : ∀ sp : Nat → Bool, (∀ x ∈ p ++ [], sp x.block = true) → DataW.TrodAll enc P W' 0 sp true f.params.toList args.toList (s.fn Hh (ds ++ [])).args p := fun sp hsp => by rw [hfn]; exact hargs sp hsp
  have hvars2 : ∀ sp : Nat → Bool, DataW.TrodVars enc P W' sp s.vars (s.fn Hh (ds ++ [])).vars [] := fun sp => by rw [hfn, hvars]; rfl
  have hold : ∀ x ∈ p ++ [], (fun b => decide (b < W.heap.size)) x.block = true := fun x hx => by simpa using hlt x hx
  refine ⟨ds, [], p ++ [], [], p, [], hW', hres2 _ _ _, hargs2 _ hold, hvars2 _, Go.World.keptBut_mono (fun _ h => h.elim) hk, fun _ => ?_⟩
  refine ⟨ok_one hres rfl (okWide_bool_mk htb _), _, _, ([] ++ p) ++ [], ⟨[] ++ p, [], trodAll_append (hargs2 _ (fun _ _ => rfl)) (hres2 _ _ _), hvars2 _, rfl, ?_, ?_⟩, ?_⟩
  · intro b off hp
    rw [hfz' _ (hlt (.cell b off) (by simpa using hp))]
    exact hfz b off (by simpa using hp)
  · intro ha
    simpa using hnd ha
  · intro x hx _
    simpa using hx

end
end W

/-
  Arguments that were read are data.
-/
set_option linter.unusedSimpArgs false
set_option linter.unusedVariables false
namespace W
open Go (World Value Addr IntKind Program TypeId FuncId Operand Act Oper Next Result Sem Ending Exit Code Func DataW MemPlace Calls TypeDesc Lit)

mutual
def D.bulk : D → Nat
  | .s x => x.length + 1
  | .sl xs => D.bulks xs + 1
  | .agg cs => D.bulks cs + 1
  | _ => 1
def D.bulks : List D → Nat
  | [] => 0
  | x :: l => D.bulk x + D.bulks l
end

theorem bulks_append : ∀ (a b : List D), D.bulks (a ++ b) = D.bulks a + D.bulks b
  | [], b => by simp [D.bulks]
  | x :: a, b => by simp only [List.cons_append, D.bulks, bulks_append a b]; omega

def tiles (P : Program) : Nat → List Go.Field → Bool
  | _, [] => true
  | off, f :: l => f.offset == off && tiles P (off + P.cellsOf f.type) l
def sumCells (P : Program) : List Go.Field → Nat
  | [] => 0
  | f :: l => P.cellsOf f.type + sumCells P l

def cover1 (P : Program) (ts : List TypeId) (t : TypeId) : Bool :=
  match P.underlying t with
  | some .bool | some (.int _) | some .string => true
  | some (.slice e) => ts.contains e && Nat.blt 0 (P.cellsOf e)
  | some (.struct fs) => fs.toList.all (fun f => ts.contains f.type) && tiles P 0 fs.toList && Nat.beq (P.cellsOf t) (sumCells P fs.toList)
  | some (.array n e) => ts.contains e && Nat.beq (P.cellsOf t) (n * P.cellsOf e)
  | _ => false
/-- The types that reading comes to are these, all of kinds that are data. -/
def covers (P : Program) (ts : List TypeId) : Bool := ts.all (cover1 P ts)

def aggT (P : Program) (t : TypeId) : Bool :=
  match P.underlying t with
  | some (.struct _) | some (.array _ _) => true
  | _ => false

def elD : Bool → List D → D
  | true, xs => .agg xs
  | false, [x] => x
  | false, _ => .np

/-- Cells of a type. -/
def Ty (P : Program) : Nat → TypeId → List D → Prop
  | 0, _, _ => False
  | n + 1, t, xs => match P.underlying t with
    | some .bool => ∃ b, xs = [.b b]
    | some (.int k) => ∃ z, xs = [.i k z] ∧ (Lit.int k z).wf = true
    | some .string => ∃ s, xs = [.s s] ∧ s.length ≤ Go.maxLen ∧ ∀ c ∈ s, c < 256
    | some (.slice e) => xs = [.nil] ∨ ∃ yss : List (List D), xs = [.sl (yss.map (elD (aggT P e)))] ∧ yss.length ≤ Go.maxLen ∧ ∀ q ∈ yss, Ty P n e q
    | some (.struct fs) => ∃ yss : List (List D), xs = yss.flatten ∧ yss.length = fs.toList.length ∧ ∀ (i : Nat) (f : Go.Field) (q : List D), fs.toList[i]? = some f → yss[i]? = some q → Ty P n f.type q
    | some (.array m e) => ∃ yss : List (List D), xs = yss.flatten ∧ yss.length = m ∧ ∀ q ∈ yss, Ty P n e q
    | _ => False

/-- One argument of a type. -/
def Arg (P : Program) (t : TypeId) (x : D) : Prop := ∃ n xs, Ty P n t xs ∧ x = elD (aggT P t) xs

/-- What a measure of readings is. -/
structure Bulk {Hh : Type} (B : DataW Hh → Nat) (BA : List (DataW Hh) → Nat) : Prop where
  str : ∀ bytes, B (.lit (.string bytes)) = bytes.length + 1
  lit : ∀ l, 1 ≤ B (.lit l)
  nil : B .nil = 1
  sl : ∀ es sp, B (.slice es sp) = BA es + BA sp + 1
  agg : ∀ ps, B (.agg ps) = BA ps + 1
  n : BA [] = 0
  c : ∀ d r, BA (d :: r) = B d + BA r

def g0 (W : World) : Gh := { n := 0, φ := fun _ => 0, own := fun _ => none, pub := fun b => match W.heap[b]? with | some (.cells c _ _) => c.size | _ => 0 }

theorem glOk_nil {M : Maps} {g : Gh} {w : World} (h : M.gl = []) : GlOk M g w := fun n x hn => by rw [h] at hn; cases hn

theorem g0_relH (M : Maps) (W : World) (hgl : GlOk M (g0 W) W) : RelH M (g0 W) W [] := ⟨rfl, fun id o h => by simp at h, fun b hb => ⟨rfl, by
  show (match W.heap[b]? with | some (.cells c _ _) => c.size | _ => 0) = 0
  rw [Array.getElem?_eq_none hb]⟩, hgl⟩

theorem g0_evo {W W' : World} {g' : Gh} (h : Evo (g0 W) W g' W') : ∀ b, b < W.heap.size → W'.heap[b]? = W.heap[b]? := fun b hb => (h.keep b hb (.inl rfl)).2.1

theorem pub_of_cell {W : World} {b o : Nat} {v : Value} (h : W.cell? ⟨b, o, none⟩ = some v) : o < (g0 W).pub b := by
  simp only [World.cell?] at h
  show o < (match W.heap[b]? with | some (.cells c _ _) => c.size | _ => 0)
  split at h
  · rename_i c e f hq
    rw [hq]
    simp at h
    exact (Array.getElem?_eq_some_iff.1 h).1
  · cases h

theorem spot_of_cell {W : World} {a : Addr} {v : Value} (h : W.cell? a = some v) : a.spot = none := by
  simp only [World.cell?] at h
  split at h
  · cases hs : a.spot with
    | none => rfl
    | some s => simp [hs] at h
  · cases h

section
variable {P : Program} {Hh : Type} {enc : TypeId × Value → Hh} {W : World}

theorem RepDL.split {pub : Nat → Nat} {w : World} : ∀ {a : List (List D)} {b : List (List Value)}, a.length = b.length → (∀ (i : Nat) (q : List D) (r : List Value), a[i]? = some q → b[i]? = some r → RepDL pub w q r) → RepDL pub w a.flatten b.flatten
  | [], [], _, _ => .nil
  | q :: a, r :: b, hl, h => by
    simp only [List.flatten_cons]
    exact (h 0 q r rfl rfl).append (RepDL.split (by simpa using hl) (fun i q' r' hq hr => h (i + 1) q' r' (by simpa using hq) (by simpa using hr)))
  | [], _ :: _, hl, _ => by simp at hl
  | _ :: _, [], hl, _ => by simp at hl

/-- Fields side by side: all of the cells. -/
theorem tiles_flatten (cs : List Value) : ∀ (fs : List Go.Field) (off : Nat), tiles P off fs = true → (fs.map fun f => (cs.drop f.offset).take (P.cellsOf f.type)).flatten = (cs.drop off).take (sumCells P fs)
  | [], off, _ => by simp [sumCells]
  | f :: fs, off, h => by
    simp only [tiles, Bool.and_eq_true, beq_iff_eq] at h
    simp only [List.map_cons, List.flatten_cons, sumCells, tiles_flatten cs fs _ h.2, h.1]
    rw [List.take_add, List.drop_drop]

theorem array_flatten (cs : List Value) (sz : Nat) : ∀ n, ((List.range n).map fun i => (cs.drop (i * sz)).take sz).flatten = cs.take (n * sz)
  | 0 => by simp
  | n + 1 => by
    rw [List.range_succ, List.map_append, List.flatten_append, array_flatten cs sz n, Nat.succ_mul, List.take_add]
    simp

theorem ty_cells {n : Nat} {t : TypeId} {xs : List D} (h : Ty P n t xs) : (elD (aggT P t) xs).cells = xs := by
  cases n with
  | zero => exact h.elim
  | succ n =>
    unfold Ty at h
    unfold aggT
    split at h
    · rename_i hu; rw [hu]; obtain ⟨b, rfl⟩ := h; rfl
    · rename_i k hu; rw [hu]; obtain ⟨b, rfl, _⟩ := h; rfl
    · rename_i hu; rw [hu]; obtain ⟨b, rfl, _⟩ := h; rfl
    · rename_i e hu; rw [hu]
      rcases h with rfl | ⟨yss, rfl, _⟩ <;> rfl
    · rename_i fs hu; rw [hu]; rfl
    · rename_i m e hu; rw [hu]; rfl
    · exact h.elim

theorem ones_append {a b : List D} (h1 : D.ones a = true) (h2 : D.ones b = true) : D.ones (a ++ b) = true := by
  induction a with
  | nil => exact h2
  | cons q a ih => simp only [List.cons_append, D.ones, Bool.and_eq_true] at h1 ⊢; exact ⟨h1.1, ih h1.2⟩
theorem ones_flatten : ∀ {l : List (List D)}, (∀ q ∈ l, D.ones q = true) → D.ones l.flatten = true
  | [], _ => rfl
  | q :: l, h => ones_append (h q (by simp)) (ones_flatten fun r hr => h r (by simp [hr]))

theorem ty_ones : ∀ {n : Nat} {t : TypeId} {xs : List D}, Ty P n t xs → D.ones xs = true
  | 0, _, _, h => h.elim
  | n + 1, t, xs, h => by
    unfold Ty at h
    split at h
    · obtain ⟨b, rfl⟩ := h; rfl
    · obtain ⟨b, rfl, _⟩ := h; rfl
    · obtain ⟨b, rfl, _⟩ := h; rfl
    · rcases h with rfl | ⟨yss, rfl, _⟩ <;> rfl
    · obtain ⟨yss, rfl, hl, h⟩ := h
      refine ones_flatten fun q hq => ?_
      obtain ⟨i, hi⟩ := List.getElem?_of_mem hq
      have hlt := (List.getElem?_eq_some_iff.1 hi).1
      rename_i fs hu
      exact ty_ones (h i (fs.toList[i]'(by omega)) q (by simp [hl ▸ hlt]) hi)
    · obtain ⟨yss, rfl, hl, h⟩ := h
      exact ones_flatten fun q hq => ty_ones (h q hq)
    · exact h.elim

end
end W

/-
  Arguments that were read are data: the reading itself.
-/
set_option linter.unusedSimpArgs false
set_option linter.unusedVariables false
namespace W
open Go (World Value Addr IntKind Program TypeId FuncId Operand Act Oper Next Result Sem Ending Exit Code Func DataW MemPlace Calls TypeDesc Lit)

theorem exists_list {α : Type} {R : Nat → α → Prop} : ∀ (n : Nat), (∀ i, i < n → ∃ a, R i a) → ∃ l : List α, l.length = n ∧ ∀ (i : Nat) (a : α), l[i]? = some a → R i a
  | 0, _ => ⟨[], rfl, fun i a h => by simp at h⟩
  | n + 1, h => by
    obtain ⟨l, h1, h2⟩ := exists_list n (fun i hi => h i (by omega))
    obtain ⟨a, ha⟩ := h n (by omega)
    refine ⟨l ++ [a], by simp [h1], fun i b hb => ?_⟩
    rw [List.getElem?_append] at hb
    split at hb
    · exact h2 i b hb
    · rename_i hge
      have hi : i - l.length = 0 := by
        rcases Nat.eq_zero_or_pos (i - l.length) with h0 | h0
        · exact h0
        · rw [List.getElem?_eq_none (by simp; omega)] at hb; cases hb
      rw [hi] at hb
      simp only [List.getElem?_cons_zero, Option.some.injEq] at hb
      subst hb
      rwa [show i = n by omega]

theorem flatten_get {α : Type} {c : Nat} : ∀ (l : List (List α)), (∀ q ∈ l, q.length = c) → ∀ (j : Nat) (v : α), l.flatten[j]? = some v → ∃ i r q, j = i * c + r ∧ l[i]? = some q ∧ q[r]? = some v
  | [], _, j, v, h => by simp at h
  | q :: l, hc, j, v, h => by
    have hq := hc q (by simp)
    rw [List.flatten_cons, List.getElem?_append] at h
    split at h
    · exact ⟨0, j, q, by simp, rfl, h⟩
    · rename_i hge
      obtain ⟨i, r, q', h1, h2, h3⟩ := flatten_get l (fun x hx => hc x (by simp [hx])) _ v h
      exact ⟨i + 1, r, q', by rw [Nat.succ_mul]; omega, by simpa using h2, h3⟩

theorem flatten_length {α : Type} {c : Nat} : ∀ (l : List (List α)), (∀ q ∈ l, q.length = c) → l.flatten.length = l.length * c
  | [], _ => by simp
  | q :: l, hc => by
    rw [List.flatten_cons, List.length_append, hc q (by simp), flatten_length l (fun x hx => hc x (by simp [hx])), List.length_cons, Nat.succ_mul]; omega

section
variable {P : Program} {Hh : Type} {enc : TypeId × Value → Hh} {W : World}

theorem bulk_el {n : Nat} {t : TypeId} {q : List D} (h : Ty P n t q) {b : Nat} (hb : D.bulks q + (if aggT P t then 1 else 0) ≤ b) : D.bulk (elD (aggT P t) q) ≤ b := by
  cases ha : aggT P t with
  | true => rw [ha] at hb; simpa [elD, D.bulk] using hb
  | false =>
    rw [ha] at hb
    have h1 := ty_cells h
    rw [ha] at h1
    match q, h1, hb with
    | [x], _, hb => simpa [elD, D.bulks] using hb
    | [], h1, _ => simp [elD, D.cells] at h1
    | x :: y :: l, h1, _ => simp [elD, D.cells] at h1

theorem bulks_le {B : DataW Hh → Nat} {BA : List (DataW Hh) → Nat} (hB : Bulk B BA) : ∀ {ys : List D} {ds : List (DataW Hh)}, ys.length = ds.length → (∀ (i : Nat) (y : D) (d : DataW Hh), ys[i]? = some y → ds[i]? = some d → D.bulk y ≤ B d) → D.bulks ys ≤ BA ds
  | [], [], _, _ => by simp [D.bulks]
  | y :: ys, d :: ds, hl, h => by
    rw [hB.c, D.bulks]
    have h1 := h 0 y d rfl rfl
    have h2 := bulks_le hB (ys := ys) (ds := ds) (by simpa using hl) (fun i y d hy hd => h (i + 1) y d (by simpa using hy) (by simpa using hd))
    omega
  | [], _ :: _, hl, _ => by simp at hl
  | _ :: _, [], hl, _ => by simp at hl

theorem bulks_flat_le {B : DataW Hh → Nat} {BA : List (DataW Hh) → Nat} (hB : Bulk B BA) : ∀ {ys : List (List D)} {ds : List (DataW Hh)}, ys.length = ds.length → (∀ (i : Nat) (y : List D) (d : DataW Hh), ys[i]? = some y → ds[i]? = some d → D.bulks y ≤ B d) → D.bulks ys.flatten ≤ BA ds
  | [], [], _, _ => by simp [D.bulks]
  | y :: ys, d :: ds, hl, h => by
    rw [hB.c, List.flatten_cons, bulks_append]
    have h1 := h 0 y d rfl rfl
    have h2 := bulks_flat_le hB (ys := ys) (ds := ds) (by simpa using hl) (fun i y d hy hd => h (i + 1) y d (by simpa using hy) (by simpa using hd))
    omega
  | [], _ :: _, hl, _ => by simp at hl
  | _ :: _, [], hl, _ => by simp at hl

theorem cells_spec {a : Addr} {n : Nat} {cs : List Value} (h : W.cells? 0 a n = some cs) : cs.length = n ∧ ∀ (i : Nat) (v : Value), cs[i]? = some v → W.cell? (a.add i) = some v := by
  unfold World.cells? at h
  simp only [Nat.zero_le, if_true] at h
  have hl := Go.mapM_some_length h
  refine ⟨by simpa using hl, fun i v hv => ?_⟩
  have hi : i < n := by
    have := (List.getElem?_eq_some_iff.1 hv).1
    rw [hl] at this; simpa using this
  have := Go.mapM_some_get h i i (by simp [hi])
  rw [this, hv]

theorem bulks_sl (ys : List D) : D.bulks [.sl ys] = D.bulks ys + 1 := by simp [D.bulks, D.bulk]

theorem trod_rep {ts : List TypeId} (hts : covers P ts = true) {B : DataW Hh → Nat} {BA : List (DataW Hh) → Nat} (hB : Bulk B BA) : ∀ (n : Nat) (t : TypeId) (cs : List Value) (x : DataW Hh × List MemPlace), t ∈ ts →
    DataW.trod enc P W 0 (fun _ => true) true n t cs = some x → ∃ xs, Ty P n t xs ∧ RepDL (g0 W).pub W xs cs ∧ D.bulks xs + (if aggT P t then 1 else 0) ≤ B x.1
  | 0, t, cs, x, _, h => by simp [DataW.trod] at h
  | n + 1, t, cs, x, ht, h => by
    have hcov : cover1 P ts t = true := by
      simp only [covers, List.all_eq_true] at hts
      exact hts t ht
    unfold cover1 at hcov
    unfold Ty aggT
    split at hcov
    · -- bool
      rename_i hu
      obtain ⟨b, rfl, rfl⟩ := DataW.trod_bool hu h
      rw [hu]
      exact ⟨[.b b], ⟨b, rfl⟩, .cons _ _ _ _ (.b b) .nil, by have := hB.lit (.bool b); simpa [D.bulks, D.bulk] using this⟩
    · rename_i k hu
      obtain ⟨z, rfl, rfl, hw⟩ := DataW.trod_int hu h
      rw [hu]
      exact ⟨[.i k z], ⟨z, rfl, hw⟩, .cons _ _ _ _ (.i k z) .nil, by have := hB.lit (.int k z); simpa [D.bulks, D.bulk] using this⟩
    · rename_i hu
      obtain ⟨z, rfl, rfl, hm⟩ := DataW.trod_string hu h
      rw [hu]
      have hl : (z.data.toList.map (·.toNat)).length = z.size := by simp
      refine ⟨[.s (z.data.toList.map (·.toNat))], ⟨_, rfl, by rw [hl]; exact hm, fun c hc => ?_⟩, .cons _ _ _ _ (.s _ z rfl) .nil, ?_⟩
      · obtain ⟨b, _, rfl⟩ := List.mem_map.1 hc
        exact b.toNat_lt
      · simp only [D.bulks, D.bulk, hB.str]
        simp
    · -- slice
      rename_i e hu
      simp only [Bool.and_eq_true, List.contains_iff_mem, Nat.blt_eq] at hcov
      obtain ⟨he, hpos⟩ := hcov
      rw [hu]
      rcases DataW.trod_slice hu h with ⟨rfl, rfl⟩ | ⟨a, len, cap, elems, rest, m, hm, rfl, rfl, hb, hlc, hcap, hlen, hel, _, _⟩
      · exact ⟨[.nil], .inl rfl, .cons _ _ _ _ .nil .nil, by rw [hB.nil]; simp [D.bulks, D.bulk]⟩
      · cases hm
        -- each element
        obtain ⟨l, hl1, hl2⟩ := exists_list (R := fun i (p : List D × List Value) => ∃ y, elems[i]? = some y ∧ W.cells? 0 (a.add (i * P.cellsOf e)) (P.cellsOf e) = some p.2 ∧ Ty P n e p.1 ∧ RepDL (g0 W).pub W p.1 p.2 ∧ D.bulks p.1 + (if aggT P e then 1 else 0) ≤ B y.1) len (fun i hi => by
          have h1 := hel i hi
          rw [List.getElem?_eq_getElem (by omega)] at h1
          obtain ⟨cs', h2, h3⟩ := Option.bind_eq_some_iff.1 h1
          obtain ⟨xs, h4, h5, h6⟩ := trod_rep hts hB n e cs' _ he h3
          exact ⟨(xs, cs'), _, List.getElem?_eq_getElem (by omega), h2, h4, h5, h6⟩)
        have htys : ∀ q ∈ l.map (·.1), Ty P n e q := fun q hq => by
          obtain ⟨p, hp, rfl⟩ := List.mem_map.1 hq
          obtain ⟨i, hi⟩ := List.getElem?_of_mem hp
          obtain ⟨y, _, _, h4, _⟩ := hl2 i p hi
          exact h4
        have hbulk : D.bulks ((l.map (·.1)).map (elD (aggT P e))) ≤ BA (elems.map (·.1)) := by
          refine bulks_le hB (by simp [hl1, hlen]) (fun i y d hy hd => ?_)
          simp only [List.getElem?_map, Option.map_map, Option.map_eq_some_iff] at hy hd
          obtain ⟨p, hp, rfl⟩ := hy
          obtain ⟨z, hz, rfl⟩ := hd
          obtain ⟨y, h1, _, h4, _, h6⟩ := hl2 i p hp
          rw [hz] at h1
          cases h1
          exact bulk_el h4 h6
        refine ⟨[.sl ((l.map (·.1)).map (elD (aggT P e)))], .inr ⟨l.map (·.1), rfl, by simp only [List.length_map, hl1]; omega, htys⟩, .cons _ _ _ _ ?_ .nil, ?_⟩
        · cases hle : l with
          | nil =>
            rw [hle] at hl1
            simp at hl1
            subst hl1
            exact .sl0 a cap
          | cons p0 l' =>
            rw [← hle]
            have hlpos : 0 < len := by rw [← hl1, hle]; simp
            have hcl : ∀ p ∈ l, p.2.length = P.cellsOf e := fun p hp => by
              obtain ⟨i, hi⟩ := List.getElem?_of_mem hp
              obtain ⟨y, _, h2, _⟩ := hl2 i p hi
              exact (cells_spec h2).1
            have hcell : ∀ i p, l[i]? = some p → ∀ r v, p.2[r]? = some v → W.cell? ((a.add (i * P.cellsOf e)).add r) = some v := fun i p hi r v hv => by
              obtain ⟨y, _, h2, _⟩ := hl2 i p hi
              exact (cells_spec h2).2 r v hv
            have hspot : a.spot = none := by
              have h0 : l[0]? = some p0 := by rw [hle]; rfl
              have hp0 := hcl p0 (by rw [hle]; simp)
              have hlt : 0 < p0.2.length := by omega
              have := spot_of_cell (hcell 0 p0 h0 0 p0.2[0] (by simp [hlt]))
              rw [Nat.zero_mul] at this
              unfold Addr.add at this
              simpa using this
            obtain ⟨b, off, sp⟩ := a
            simp only at hspot
            subst hspot
            have hvlen : (l.map (·.2)).flatten.length = len * P.cellsOf e := by
              rw [flatten_length _ (fun q hq => by obtain ⟨p, hp, rfl⟩ := List.mem_map.1 hq; exact hcl p hp)]; simp [hl1]
            have hflat : ((l.map (·.1)).map (elD (aggT P e))).flatMap D.cells = (l.map (·.1)).flatten := by
              rw [List.flatMap_map, List.flatMap_def]
              congr 1
              rw [List.map_congr_left (g := id)]
              · simp
              · intro q hq; exact ty_cells (htys q hq)
            have hrep : RepDL (g0 W).pub W (((l.map (·.1)).map (elD (aggT P e))).flatMap D.cells) (l.map (·.2)).flatten := by
              rw [hflat]
              refine RepDL.split (by simp) (fun i q r hq hr => ?_)
              simp only [List.getElem?_map, Option.map_eq_some_iff] at hq hr
              obtain ⟨p, hp, rfl⟩ := hq
              obtain ⟨p', hp', rfl⟩ := hr
              rw [hp] at hp'
              cases hp'
              obtain ⟨y, _, _, _, h5, _⟩ := hl2 i p hp
              exact h5
            have hcs : ∀ j v, (l.map (·.2)).flatten[j]? = some v → W.cell? ⟨b, off + j, none⟩ = some v := fun j v hj => by
              obtain ⟨i, r, q, h1, h2, h3⟩ := flatten_get _ (fun q hq => by obtain ⟨p, hp, rfl⟩ := List.mem_map.1 hq; exact hcl p hp) j v hj
              simp only [List.getElem?_map, Option.map_eq_some_iff] at h2
              obtain ⟨p, hp, rfl⟩ := h2
              have := hcell i p hp r v h3
              rw [add_none, add_none] at this
              rw [h1, ← Nat.add_assoc]; exact this
            have hlenD : ((l.map (·.1)).map (elD (aggT P e))).length = len := by simp [hl1]
            have hsl := RepD.sl (pub := (g0 W).pub) (w := W) ((l.map (·.1)).map (elD (aggT P e))) b off cap (P.cellsOf e) (l.map (·.2)).flatten (by rw [hle]; simp) (fun x hx => ?_) hrep hcs ?_ (by rw [hlenD]; exact hlc) ?_
            · rw [hlenD] at hsl; exact hsl
            · obtain ⟨q, hq, rfl⟩ := List.mem_map.1 hx
              rw [ty_cells (htys q hq)]
              obtain ⟨p, hp, rfl⟩ := List.mem_map.1 hq
              obtain ⟨i, hi⟩ := List.getElem?_of_mem hp
              obtain ⟨y, _, _, _, h5, _⟩ := hl2 i p hi
              rw [h5.length]; exact hcl p hp
            · have hp : 0 < len * P.cellsOf e := Nat.mul_pos hlpos hpos
              have hlt : (l.map (·.2)).flatten.length - 1 < (l.map (·.2)).flatten.length := by rw [hvlen]; omega
              have := pub_of_cell (hcs _ _ (List.getElem?_eq_getElem hlt))
              rw [hvlen] at this ⊢
              omega
            · refine hrep.ones ?_
              rw [hflat]
              exact ones_flatten fun q hq => ty_ones (htys q hq)
        · rw [bulks_sl, hB.sl]
          simp only [Bool.false_eq_true, if_false]
          omega
    · -- struct
      rename_i fs hu
      simp only [Bool.and_eq_true, List.all_eq_true, List.contains_iff_mem, Nat.beq_eq] at hcov
      obtain ⟨⟨hf, htile⟩, hsum⟩ := hcov
      obtain ⟨ys, m, hm, rfl, hlc, hlen, hel⟩ := DataW.trod_struct hu h
      cases hm
      rw [hu]
      obtain ⟨l, hl1, hl2⟩ := exists_list (R := fun i (p : List D) => ∃ f y, fs[i]? = some f ∧ ys[i]? = some y ∧ Ty P n f.type p ∧ RepDL (g0 W).pub W p ((cs.drop f.offset).take (P.cellsOf f.type)) ∧ D.bulks p + (if aggT P f.type then 1 else 0) ≤ B y.1) fs.size (fun i hi => by
        have hfi : fs[i]? = some fs[i] := by simp [hi]
        have h1 := hel i fs[i] hfi
        rw [List.getElem?_eq_getElem (by omega)] at h1
        obtain ⟨xs, h4, h5, h6⟩ := trod_rep hts hB n _ _ _ (hf fs[i] (by simp)) h1
        exact ⟨xs, fs[i], _, hfi, List.getElem?_eq_getElem (by omega), h4, h5, h6⟩)
      refine ⟨l.flatten, ⟨l, rfl, by simp [hl1], fun i f q hfi hq => ?_⟩, ?_, ?_⟩
      · obtain ⟨f', y, h1, h2, h3, _⟩ := hl2 i q hq
        have : fs[i]? = some f := by simpa using hfi
        rw [h1] at this; cases this
        exact h3
      · have hall : cs = (fs.toList.map fun f => (cs.drop f.offset).take (P.cellsOf f.type)).flatten := by
          rw [tiles_flatten cs _ 0 htile, ← hsum, ← hlc]; simp
        rw [hall]
        refine RepDL.split (by simp [hl1]) (fun i q r hq hr => ?_)
        simp only [List.getElem?_map, Option.map_eq_some_iff] at hr
        obtain ⟨f, hfi, rfl⟩ := hr
        obtain ⟨f', y, h1, h2, h3, h4, _⟩ := hl2 i q hq
        have : fs[i]? = some f := by simpa using hfi
        rw [h1] at this; cases this
        exact h4
      · simp only [hB.agg, if_true]
        have := bulks_flat_le hB (ys := l) (ds := ys.map (·.1)) (by simp [hl1, hlen]) (fun i q d hq hd => by
          simp only [List.getElem?_map, Option.map_eq_some_iff] at hd
          obtain ⟨z, hz, rfl⟩ := hd
          obtain ⟨f', y, h1, h2, h3, h4, h5⟩ := hl2 i q hq
          rw [hz] at h2; cases h2
          omega)
        omega
    · -- array
      rename_i k e hu
      simp only [Bool.and_eq_true, List.contains_iff_mem, Nat.beq_eq] at hcov
      obtain ⟨he, hsum⟩ := hcov
      obtain ⟨ys, m, hm, rfl, hlc, hlen, hel⟩ := DataW.trod_array hu h
      cases hm
      rw [hu]
      obtain ⟨l, hl1, hl2⟩ := exists_list (R := fun i (p : List D) => ∃ y, ys[i]? = some y ∧ Ty P n e p ∧ RepDL (g0 W).pub W p ((cs.drop (i * P.cellsOf e)).take (P.cellsOf e)) ∧ D.bulks p + (if aggT P e then 1 else 0) ≤ B y.1) k (fun i hi => by
        have h1 := hel i hi
        rw [List.getElem?_eq_getElem (by omega)] at h1
        obtain ⟨xs, h4, h5, h6⟩ := trod_rep hts hB n _ _ _ he h1
        exact ⟨xs, _, List.getElem?_eq_getElem (by omega), h4, h5, h6⟩)
      refine ⟨l.flatten, ⟨l, rfl, hl1, fun q hq => ?_⟩, ?_, ?_⟩
      · obtain ⟨i, hi⟩ := List.getElem?_of_mem hq
        obtain ⟨y, h2, h3, _⟩ := hl2 i q hi
        exact h3
      · have hall : cs = ((List.range k).map fun i => (cs.drop (i * P.cellsOf e)).take (P.cellsOf e)).flatten := by
          rw [array_flatten, ← hsum, ← hlc]; simp
        rw [hall]
        refine RepDL.split (by simp [hl1]) (fun i q r hq hr => ?_)
        simp only [List.getElem?_map, Option.map_eq_some_iff] at hr
        obtain ⟨i', hi', rfl⟩ := hr
        have hik : i < k := by rw [← hl1]; exact (List.getElem?_eq_some_iff.1 hq).1
        rw [List.getElem?_range hik] at hi'
        cases hi'
        obtain ⟨y, h2, h3, h4, _⟩ := hl2 i q hq
        exact h4
      · simp only [hB.agg, if_true]
        have := bulks_flat_le hB (ys := l) (ds := ys.map (·.1)) (by simp [hl1, hlen]) (fun i q d hq hd => by
          simp only [List.getElem?_map, Option.map_eq_some_iff] at hd
          obtain ⟨z, hz, rfl⟩ := hd
          obtain ⟨y, h2, h3, h4, h5⟩ := hl2 i q hq
          rw [hz] at h2; cases h2
          omega)
        omega
    · cases hcov

end
end W

/-
  A law's contract from runs of the small semantics, one for every way that its arguments may read.
-/
set_option linter.unusedSimpArgs false
set_option linter.unusedVariables false
namespace W
open Go (World Value Addr IntKind Program TypeId FuncId Operand Act Oper Next Result Sem Ending Exit Code Func DataW MemPlace Calls TypeDesc Lit)
open Go.ChangeShapes Go.RowKit

section
variable {P : Program} {Hh : Type} {enc : TypeId × Value → Hh} {W : World} {M : Maps}

theorem form_ok {r : Go.Reach} {b : Nat} {t : TypeId} {v : Value} (hv : Value.okWide P W r b t v) : (aggT P t = true → ∃ cs, v = .agg cs) ∧
    (aggT P t = false → (∃ d, P.underlying t = some d ∧ (d = .bool ∨ (∃ k, d = .int k) ∨ d = .string ∨ ∃ e, d = .slice e)) → v.cells.toList = [v]) := by
  unfold Value.okWide at hv
  unfold aggT
  split at hv
  · rename_i hu
    rw [hu]
    obtain ⟨cs, rfl, _⟩ := hv
    exact ⟨fun _ => ⟨cs, rfl⟩, fun h => by cases h⟩
  · rename_i hu
    rw [hu]
    obtain ⟨cs, rfl, _⟩ := hv
    exact ⟨fun _ => ⟨cs, rfl⟩, fun h => by cases h⟩
  · rename_i h1 h2
    refine ⟨fun h => ?_, fun _ ⟨d, hu, hd⟩ => ?_⟩
    · exfalso
      split at h
      · rename_i hu; exact h1 _ hu
      · rename_i hu; exact h2 _ _ hu
      · cases h
    · cases v with
      | agg cs => rcases hd with rfl | ⟨k, rfl⟩ | rfl | ⟨e, rfl⟩ <;> simp [Go.Cell.okWide, Go.Cell.ok, hu] at hv
      | _ => rfl

theorem arg_rep {ts : List TypeId} (hts : covers P ts = true) {B : DataW Hh → Nat} {BA : List (DataW Hh) → Nat} (hB : Bulk B BA) {r : Go.Reach} {b : Nat} {t : TypeId} {v : Value} {d : DataW Hh} {ps : List MemPlace} (ht : t ∈ ts)
    (hv : Value.okWide P W r b t v) (h : DataW.Trod enc P W 0 (fun _ => true) true t v d ps) : ∃ x, Arg P t x ∧ RepS M (g0 W) W (.d x) v ∧ D.bulk x ≤ B d := by
  obtain ⟨n, hn⟩ := h
  obtain ⟨xs, h1, h2, h3⟩ := trod_rep hts hB n t _ _ ht hn
  refine ⟨elD (aggT P t) xs, ⟨n, xs, h1, rfl⟩, ?_, bulk_el h1 h3⟩
  obtain ⟨f1, f2⟩ := form_ok hv
  cases ha : aggT P t with
  | true =>
    obtain ⟨cs, rfl⟩ := f1 ha
    exact .d _ _ (.agg xs cs h2)
  | false =>
    have hcov : cover1 P ts t = true := by
      simp only [covers, List.all_eq_true] at hts
      exact hts t ht
    have hc := f2 ha (by
      unfold cover1 at hcov
      split at hcov
      · rename_i hu; exact ⟨_, hu, .inl rfl⟩
      · rename_i hu; exact ⟨_, hu, .inr (.inl ⟨_, rfl⟩)⟩
      · rename_i hu; exact ⟨_, hu, .inr (.inr (.inl rfl))⟩
      · rename_i hu; exact ⟨_, hu, .inr (.inr (.inr ⟨_, rfl⟩))⟩
      · rename_i hu; simp [aggT, hu] at ha
      · rename_i hu; simp [aggT, hu] at ha
      · cases hcov)
    rw [hc] at h2
    cases h2 with
    | cons x _ l _ hx hl =>
      cases hl
      exact .d _ _ hx

theorem args_rep {ts : List TypeId} (hts : covers P ts = true) {B : DataW Hh → Nat} {BA : List (DataW Hh) → Nat} (hB : Bulk B BA) {r : Go.Reach} {b : Nat} : ∀ {tys : List TypeId} {vs : List Value} {ds : List (DataW Hh)} {ps : List MemPlace} (j : Nat),
    (∀ t ∈ tys, t ∈ ts) → (∀ (i : Nat) t v, tys[i]? = some t → vs[i]? = some v → Value.okWide P W r b t v) → DataW.TrodAll enc P W 0 (fun _ => true) true tys vs ds ps →
    ∃ xs : List D, All2 (Arg P) tys xs ∧ ArgsRep M (g0 W) W j (xs.map .d) vs ∧ D.bulks xs ≤ BA ds
  | [], vs, ds, ps, j, _, _, h => by
    obtain ⟨rfl, rfl, rfl⟩ := trodAll_nil h
    exact ⟨[], .nil, .nil j, by simp [D.bulks]⟩
  | t :: tys, vs, ds, ps, j, ht, hv, h => by
    obtain ⟨v, vs', d, ds', p, q, rfl, rfl, rfl, hd, hrest⟩ := trodAll_cons h
    obtain ⟨x, h1, h2, h3⟩ := arg_rep (M := M) hts hB (ht t (by simp)) (hv 0 t v rfl rfl) hd
    obtain ⟨xs, h4, h5, h6⟩ := args_rep hts hB (j + 1) (fun u hu => ht u (by simp [hu])) (fun i u w' hu hw => hv (i + 1) u w' (by simpa using hu) (by simpa using hw)) hrest
    refine ⟨x :: xs, .cons h1 h4, .cons (.s h2) h5, ?_⟩
    rw [hB.c, D.bulks]
    omega

/-- ████ A LAW's CONTRACT ████ -/
theorem law_contract {f : Func} {fid : FuncId} {s : Go.ChangeSpec} {apart fresh handsOn again : Bool} {args : Array Value} {ds gs : List (DataW Hh)} {before : List MemPlace} {tb : TypeId} {ts : List TypeId} {pg : Pg} {i : Nat} {r : Go.Reach} {b : Nat}
    (hgl : GlOk M (g0 W) W) (hm : P.follows .mixedOrders = true) (hT : Tab P M pg) (hx : CallSim P M pg.ext) (hxlo : CallLo pg.ext) (hlook : look M.fm fid = some i) (hext : pg.fn i ≠ none)
    (hts : covers P ts = true) (hpar : ∀ t ∈ f.params.toList, t ∈ ts) {B : DataW Hh → Nat} {BA : List (DataW Hh) → Nat} (hB : Bulk B BA)
    (hval : ∀ (j : Nat) t v, f.params[j]? = some t → args[j]? = some v → Value.okWide P W r b t v)
    (hvars : s.vars = []) (hW : DataW.Whole enc P f.params.toList s.vars apart W args.toList ds gs before) (hs : s.fn Hh ds = { results := [.lit (.bool true)], args := ds }) (hres : f.resultTypes = #[tb]) (htb : P.underlying tb = some .bool)
    (hl : Go.laidOutB P = true) (hread : ∀ t ∈ f.params.toList, P.readableRec t = true ∧ t < P.types.size)
    (run : ∀ xs : List D, All2 (Arg P) f.params.toList xs → D.bulks xs ≤ BA ds → ∃ n r, callN pg n i (xs.map .d) [] = some r ∧ r.pan = false ∧ r.v = .d (.b true)) :
    Calls P fid args W fun e W' => ∃ v, e = .returned v ∧ s.post enc P f apart fresh handsOn again W args v W' := by
  have hW' := hW
  obtain ⟨p, q, hA, hV, rfl, hfz, hnd⟩ := hW
  obtain ⟨xs, h1, h2, h3⟩ := args_rep (M := M) hts hB 0 hpar (fun j t v ht hv => hval j t v (by simpa using ht) (by simpa using hv)) hA
  obtain ⟨n, q2, hrun, hp, hv⟩ := run xs h1 h3
  have hc := sound_calls hm hT hx hxlo hrun hlook hext h2 (g0_relH M W hgl)
  have ha : args.toList.toArray = args := by simp
  rw [ha] at hc
  refine hc.mono (fun e W' he => ?_)
  cases e with
  | returned v =>
    obtain ⟨_, g', hH, hE, hr⟩ := he
    rw [hv] at hr
    have hvb : v = .bool true := by
      cases hr with
      | s h => cases h with
        | d _ _ h => cases h; rfl
    subst hvb
    exact ⟨_, rfl, law_post hvars hW' hs hres htb hl hread hE.io (g0_evo hE)⟩
  | panicked ch =>
    obtain ⟨h, _⟩ := he
    rw [hp] at h; cases h
  | outgrown => exact he.elim

end
end W

/-
  What arguments read as, kind by kind.
-/
set_option linter.unusedSimpArgs false
set_option linter.unusedVariables false
namespace W
open Go (World Value Addr IntKind Program TypeId FuncId Func DataW MemPlace TypeDesc Lit)

theorem look_id {n a b : Nat} (h : look ((List.range n).map fun i => (i, i)) a = some b) : a = b := by
  have key : ∀ (l : List Nat), look (l.map fun i => (i, i)) a = some b → a = b := by
    intro l
    induction l with
    | nil => intro h; cases h
    | cons x l ih =>
      intro h
      simp only [List.map_cons, look, Bool.cond_eq_ite] at h
      split at h
      · rename_i hb
        cases h
        exact Nat.eq_of_beq_eq_true hb
      · exact ih h
  exact key _ h

variable {P : Program} {t e : TypeId} {x : D}

theorem arg_int {k : IntKind} (hu : P.underlying t = some (.int k)) (h : Arg P t x) : ∃ z, x = .i k z ∧ (Lit.int k z).wf = true := by
  obtain ⟨n, xs, ht, rfl⟩ := h
  cases n with
  | zero => exact ht.elim
  | succ n =>
    simp only [Ty, hu] at ht
    obtain ⟨z, rfl, hw⟩ := ht
    exact ⟨z, by simp [aggT, hu, elD], hw⟩
theorem arg_bool (hu : P.underlying t = some .bool) (h : Arg P t x) : ∃ z, x = .b z := by
  obtain ⟨n, xs, ht, rfl⟩ := h
  cases n with
  | zero => exact ht.elim
  | succ n =>
    simp only [Ty, hu] at ht
    obtain ⟨z, rfl⟩ := ht
    exact ⟨z, by simp [aggT, hu, elD]⟩
theorem arg_str (hu : P.underlying t = some .string) (h : Arg P t x) : ∃ s, x = .s s ∧ s.length ≤ Go.maxLen ∧ ∀ c ∈ s, c < 256 := by
  obtain ⟨n, xs, ht, rfl⟩ := h
  cases n with
  | zero => exact ht.elim
  | succ n =>
    simp only [Ty, hu] at ht
    obtain ⟨z, rfl, hw⟩ := ht
    exact ⟨z, by simp [aggT, hu, elD], hw⟩
theorem arg_slice (hu : P.underlying t = some (.slice e)) (h : Arg P t x) : x = .nil ∨ ∃ l : List D, x = .sl l ∧ l.length ≤ Go.maxLen ∧ ∀ y ∈ l, Arg P e y := by
  obtain ⟨n, xs, ht, rfl⟩ := h
  cases n with
  | zero => exact ht.elim
  | succ n =>
    simp only [Ty, hu] at ht
    rcases ht with rfl | ⟨yss, rfl, hl, hy⟩
    · exact .inl (by simp [aggT, hu, elD])
    · refine .inr ⟨yss.map (elD (aggT P e)), by simp [aggT, hu, elD], by simpa using hl, fun y hm => ?_⟩
      obtain ⟨q, hq, rfl⟩ := List.mem_map.1 hm
      exact ⟨n, q, hy q hq, rfl⟩
theorem map_of {α : Type} {f : α → D} : ∀ {l : List D}, (∀ y ∈ l, ∃ a, y = f a) → ∃ L : List α, l = L.map f
  | [], _ => ⟨[], rfl⟩
  | y :: l, h => by
    obtain ⟨a, ha⟩ := h y (by simp)
    obtain ⟨L, hL⟩ := map_of (l := l) (fun z hz => h z (by simp [hz]))
    exact ⟨a :: L, by simp [ha, hL]⟩

/-- A slice that came in. -/
inductive SlD {α : Type} (e : α → D) : D → List α → Prop
  | nil : SlD e .nil []
  | sl (L : List α) : SlD e (.sl (L.map e)) L
theorem SlD.len {α : Type} {e : α → D} {x : D} {L : List α} (h : SlD e x L) {H : List Obj} : lenV .lenL (.d x) H = some (.d (.i .i64 L.length)) := by
  cases h with
  | nil => rfl
  | sl => simp [lenV]
theorem SlD.ix {α : Type} {e : α → D} {x : D} {L : List α} (h : SlD e x L) {k : IntKind} {n size : Nat} {y : α} (he : (e y).cells.length = size) (hn : L[n]? = some y) : iaV (.d x) (.d (.i k (n : Nat))) size none = some (.cp (e y)) := by
  cases h with
  | nil => simp at hn
  | sl => exact iaV_sl (by omega) (by simp [hn]) (by simp [he])
theorem arg_sl {α : Type} {f : α → D} (hu : P.underlying t = some (.slice e)) (h : Arg P t x) (he : ∀ y, Arg P e y → ∃ a, y = f a) : ∃ L, SlD f x L := by
  rcases arg_slice hu h with rfl | ⟨l, rfl, _, hl⟩
  · exact ⟨[], .nil⟩
  · obtain ⟨L, rfl⟩ := map_of (f := f) (fun y hy => he y (hl y hy))
    exact ⟨L, .sl L⟩

end W

/-
  Tables that the rows list are what the small semantics reads.
-/
set_option linter.unusedSimpArgs false
set_option linter.unusedVariables false
namespace W
open Go (World Value Addr IntKind Program TypeId FuncId Func DataW MemPlace Lit)

theorem cell_size {W : World} {b i : Nat} {v : Value} (h : W.cell? ⟨b, i, none⟩ = some v) : i < (g0 W).pub b := by
  show i < (match W.heap[b]? with | some (.cells c _ _) => c.size | _ => 0)
  simp only [World.cell?] at h
  split at h
  · rename_i c t f hb
    rw [hb]
    simp only [Option.isSome_none, Bool.false_eq_true, if_false] at h
    exact (Array.getElem?_eq_some_iff.1 h).1
  · cases h

theorem rep_ints {pub : Nat → Nat} {w : World} (k : IntKind) : ∀ zs : List Int, RepDL pub w (zs.map (D.i k)) (zs.map fun z => Value.int k z)
  | [] => .nil
  | z :: zs => .cons _ _ _ _ (.i k z) (rep_ints k zs)

/-- A table anywhere on the list. -/
theorem tabIs_mem {P : Program} {W : World} {name : String} {k : IntKind} {zs : List Int} {g : Nat} {t e : TypeId} {n : Nat}
    (hg : P.globalNamed name = some g) (hty : (P.globals[g]?).map (·.type) = some t) (ht : P.underlying t = some (.array n e)) (he : P.underlying e = some (.int k)) (hce : P.cellsOf e = 1) (hct : P.cellsOf t = n) :
    ∀ {laid : List (String × DataW Unit)} {ps : List MemPlace}, DataW.LaidVars P W laid ps → (name, Go.Lib.tabData k zs) ∈ laid → Go.Lib.TabIs P W name k zs
  | [], _, _, hm => by cases hm
  | (nm, d) :: rest, ps, h, hm => by
    obtain ⟨g', t', cs, fuel, p, q, hg', ht', hvar, hd, hrest, _⟩ := h
    rcases List.mem_cons.1 hm with e | hm
    · cases e
      obtain rfl := Option.some.inj (hg.symm.trans hg')
      obtain rfl := Option.some.inj (hty.symm.trans ht')
      unfold Go.Lib.TabIs
      rw [hvar, ← Go.Lib.cells_of_tab ht he hce hct hd]
    · exact tabIs_mem hg hty ht he hce hct hrest hm

theorem glOk_tabs {M : Maps} {P : Program} {W : World} (h : ∀ n x, look M.gl n = some x → ∃ name k zs, P.globalNamed name = some n ∧ x = .agg (zs.map (D.i k)) ∧ zs ≠ [] ∧ Go.Lib.TabIs P W name k zs) : GlOk M (g0 W) W := by
  intro n x hn
  obtain ⟨name, k, zs, hg, rfl, hne, ht⟩ := h n x hn
  refine ⟨zs.map fun z => Value.int k z, rep_ints k zs, fun j v hj => ?_, ?_⟩
  · have hlt : j < zs.length := by
      have := (List.getElem?_eq_some_iff.1 hj).1
      simpa using this
    rw [Nat.zero_add, ht.cell hg j hlt]
    have : (zs.map fun z => Value.int k z)[j]? = some (.int k (zs.getD j 0)) := by simp [List.getD, hlt]
    rw [this] at hj
    exact hj
  · have hpos : 0 < zs.length := by cases zs with | nil => exact absurd rfl hne | cons => simp
    have := cell_size (ht.cell hg (zs.length - 1) (by omega))
    simp only [List.length_map]
    omega
end W

