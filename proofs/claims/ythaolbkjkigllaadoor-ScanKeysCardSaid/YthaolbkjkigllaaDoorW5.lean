/-
  ScanKeys: which words are keywords. For every two bytes, cut or not.: part 5 of what the proof rests on (a value semantics for a part of the language, sound against the model; the walks).
-/
import Derived.Lib.Bytealg
import Derived.Shelf.Small.Strs
import Derived.Shelf.Pu.ToError
import Derived.Shelf.Pu.ToErrorRange
import Derived.Test.YthaolbkjkigllaaDoorProg
import Derived.WalkKit
import Derived.ProofKit
import Derived.OpenShut
import Derived.Carry
import Derived.ChangeSame
import Derived.RowKit
import Derived.Lib.LaidTab
import Derived.Test.YthaolbkjkigllaaDoorCards
import Derived.Test.YthaolbkjkigllaaDoorTie
import Derived.Deep.DeepHandedRow
import Derived.Deep.DeepWitnessRowRef
import Derived.Lay
import Derived.Test.YthaolbkjkigllaaDoorW4
set_option linter.unusedSimpArgs false
set_option linter.unusedVariables false
namespace W
open Go (IntKind BinOp UnOp)
set_option maxRecDepth 20000
def ixN (c : Nat) : List Nat → Int
  | [] => -1
  | x :: l => bif Nat.beq x c then 0 else (match ixN c l with | .ofNat n => .ofNat (n + 1) | .negSucc _ => -1)
def ixX (vs : List V) (H : List Obj) : Option Cr :=
  match vs with
  | [.d (.s t), .d (.i .u8 c)] => some ⟨false, true, .d (.i .i64 (ixN (c.toNat % 256) t)), H, H.length⟩
  | _ => none
def teX (vs : List V) (H : List Obj) : Option Cr :=
  match vs with
  | [.d (.s _), .d (.s t), .d (.i .i64 _), .d (.i .i64 _), .ifc 110 (.d (.i .i64 e))] => bif (eqI e 1 || eqI e 2) && Nat.ble t.length 1000000 then some ⟨false, true, .ifc 112 .undef, H, H.length⟩ else none
  | _ => none
def KW : List (List Nat) := [[65, 82, 82, 65, 89], [66, 69, 71, 73, 78], [66, 89], [67, 65, 83, 69], [67, 79, 78, 83, 84], [68, 73, 86], [68, 79], [69, 76, 83, 69], [69, 76, 83, 73, 70], [69, 78, 68], [70, 65, 76, 83, 69], [70, 79, 82], [73, 70], [73, 77, 80, 79, 82, 84], [73, 78], [73, 83], [77, 79, 68], [77, 79, 68, 85, 76, 69], [78, 73, 76], [79, 70], [79, 82], [80, 79, 73, 78, 84, 69, 82], [80, 82, 79, 67, 69, 68, 85, 82, 69], [82, 69, 67, 79, 82, 68], [82, 69, 80, 69, 65, 84], [82, 69, 84, 85, 82, 78], [84, 72, 69, 78], [84, 79], [84, 82, 85, 69], [84, 89, 80, 69], [85, 78, 84, 73, 76], [86, 65, 82], [87, 72, 73, 76, 69]]
def kwX (vs : List V) (H : List Obj) : Option Cr :=
  match vs with
  | [] => some ⟨false, true, .d (.sl (KW.map D.s)), H, H.length⟩
  | _ => none
def pgA : Pg := ⟨fun n => bif Nat.beq n 58 then none else bif Nat.beq n 76 then none else prog n, fun i vs H => bif Nat.beq i 58 then ixX vs H else bif Nat.beq i 76 then teX vs H else none⟩
def pg : Pg := ⟨fun n => bif Nat.beq n 58 then none else bif Nat.beq n 76 then none else bif Nat.beq n 17 then none else prog n, fun i vs H => bif Nat.beq i 58 then ixX vs H else bif Nat.beq i 76 then teX vs H else bif Nat.beq i 17 then kwX vs H else none⟩
theorem quiet_lo {H : List Obj} {v : V} {r : Cr} (h : some (⟨false, true, v, H, H.length⟩ : Cr) = some r) : H.length ≤ r.H.length ∧ (∀ id, id < r.lo → id < H.length → r.H[id]? = H[id]?) ∧ (r.same = true → r.H = H) := by
  cases h
  exact ⟨Nat.le_refl _, fun _ _ _ => rfl, fun _ => rfl⟩
theorem ixX_lo {vs : List V} {H : List Obj} {r : Cr} (h : ixX vs H = some r) : H.length ≤ r.H.length ∧ (∀ id, id < r.lo → id < H.length → r.H[id]? = H[id]?) ∧ (r.same = true → r.H = H) := by
  unfold ixX at h
  split at h
  · exact quiet_lo h
  · cases h
theorem teX_lo {vs : List V} {H : List Obj} {r : Cr} (h : teX vs H = some r) : H.length ≤ r.H.length ∧ (∀ id, id < r.lo → id < H.length → r.H[id]? = H[id]?) ∧ (r.same = true → r.H = H) := by
  unfold teX at h
  split at h
  · rw [Bool.cond_eq_ite] at h
    split at h
    · exact quiet_lo h
    · cases h
  · cases h
theorem extA_lo : CallLo pgA.ext := by
  intro i vs H r h
  simp only [pgA, Bool.cond_eq_ite] at h
  split at h
  · exact ixX_lo h
  · split at h
    · exact teX_lo h
    · cases h
theorem ext_lo : CallLo pg.ext := by
  intro i vs H r h
  simp only [pg, Bool.cond_eq_ite] at h
  split at h
  · exact ixX_lo h
  · split at h
    · exact teX_lo h
    · split at h
      · unfold kwX at h
        split at h
        · exact quiet_lo h
        · cases h
      · cases h
theorem kw_run : isD (callJ pgA 3000 17 [] []) (.sl (KW.map D.s)) = true := by decide +kernel
theorem kw_call {H : List Obj} : callL pg 17 [] H = some ⟨false, true, .d (.sl (KW.map D.s)), H, H.length⟩ := by
  rw [callL_eq]
  unfold callWith
  rw [show pg.fn 17 = none from rfl]
  rfl
theorem ix_call {t : List Nat} {c : Nat} (hc : c < 256) {H : List Obj} : callL pg 58 [.d (.s t), .d (.i .u8 c)] H = some ⟨false, true, .d (.i .i64 (ixN c t)), H, H.length⟩ := by
  have : (c : Int).toNat % 256 = c := by simp; omega
  rw [callL_eq]
  unfold callWith
  rw [show pg.fn 58 = none from rfl]
  show ixX [.d (.s t), .d (.i .u8 c)] H = _
  rw [ixX, this]
theorem te_call {f t : List Nat} {b z e : Int} (he : e = 1 ∨ e = 2) (ht : t.length ≤ 1000000) {H : List Obj} : callL pg 76 [.d (.s f), .d (.s t), .d (.i .i64 b), .d (.i .i64 z), .ifc 110 (.d (.i .i64 e))] H = some ⟨false, true, .ifc 112 .undef, H, H.length⟩ := by
  rw [callL_eq]
  have h1 : Nat.ble t.length 1000000 = true := by simpa using ht
  unfold callWith
  rw [show pg.fn 76 = none from rfl]
  show teX [.d (.s f), .d (.s t), .d (.i .i64 b), .d (.i .i64 z), .ifc 110 (.d (.i .i64 e))] H = _
  rcases he with rfl | rfl <;> simp only [teX, h1] <;> rfl
def pre (t l : List Nat) : Bool := decide (l.take t.length = t)
theorem sl_take {l : List Nat} {n : Nat} (h : n ≤ l.length) : sliceT (.d (.s l)) none (some (n : Int)) = some (.d (.s (l.take n))) := by
  rw [sliceT_s (by simp) (by simp) (by simp; omega)]
  simp
theorem sl_drop {l : List Nat} {n : Nat} (h : n ≤ l.length) : sliceT (.d (.s l)) (some (n : Int)) none = some (.d (.s (l.drop n))) := by
  rw [sliceT_s (by simp) (by simp; omega) (by simp)]
  simp
theorem sl_mid {l : List Nat} {a b : Nat} (h : a ≤ b) (h2 : b ≤ l.length) : sliceT (.d (.s l)) (some (a : Int)) (some (b : Int)) = some (.d (.s ((l.take b).drop a))) := by
  rw [sliceT_s (by simp) (by simp; omega) (by simp; omega)]
  simp
theorem hp2_call {l t : List Nat} {H : List Obj} : callL pg 77 [.d (.s l), .d (.s t)] H = some ⟨false, true, .d (.b (pre t l)), H, H.length⟩ := by
  rw [callL_fn (fn := f_internal_stringslite_HasPrefix) rfl rfl]
  by_cases h : t.length ≤ l.length
  · have h1 : ((t.length : Int) ≤ (l.length : Int)) = True := by rw [eq_iff_iff]; simp; omega
    have h2 := sl_take h
    simp only [f_internal_stringslite_HasPrefix, argEnv_cons, Nat.zero_add, Nat.reduceAdd, argEnv_nil, exL_seq, exL_ops, runOps_n, evalK_mov, rd_c, spent_c, opC_ok, put_d, runOps_nil, thenC_nrm, rd_t, reduceCtorEq, get_ne, get_eq, readV_d, spent_t, evalK_lenS, lenS_s, okS_some, Nat.reduceEqDiff, evalK_bin, isC_t, Bool.or_self, bin_geq, h1, decide_true, runOps_g, wantG_bt, wantC_b, ↓reduceIte, evalK_sliceS, optInt_none, optInt_some, oInt_i, cut2_some, h2, bin_seql, evalK_pick, pickV_b, exL_ret, finC_ret, resultVs_cons, resultV_t, ownV_d, resultVs_nil, consO_some, leaveC_1, leaves_d, ref_d, settle_d, leave_pure, pre]
    all_goals rfl
  · have h1 : ((t.length : Int) ≤ (l.length : Int)) = False := by rw [eq_iff_iff]; simp; omega
    have h2 : pre t l = false := by
      simp only [pre, decide_eq_false_iff_not]
      intro e
      have := congrArg List.length e
      simp at this
      omega
    simp only [f_internal_stringslite_HasPrefix, argEnv_cons, Nat.zero_add, Nat.reduceAdd, argEnv_nil, exL_seq, exL_ops, runOps_n, evalK_mov, rd_c, spent_c, opC_ok, put_d, runOps_nil, thenC_nrm, rd_t, reduceCtorEq, get_ne, get_eq, readV_d, spent_t, evalK_lenS, lenS_s, okS_some, Nat.reduceEqDiff, evalK_bin, isC_t, Bool.or_self, bin_geq, h1, decide_false, runOps_g, wantG_bt, wantC_b, Bool.false_eq_true, ↓reduceIte, put_tup, evalK_pick, readV_tup, pickV_f, exL_ret, finC_ret, resultVs_cons, resultV_t, ownV_d, resultVs_nil, consO_some, leaveC_1, leaves_d, ref_d, settle_d, leave_pure, h2]
    all_goals rfl
theorem hp_call {l t : List Nat} {H : List Obj} : callL pg 65 [.d (.s l), .d (.s t)] H = some ⟨false, true, .d (.b (pre t l)), H, H.length⟩ := by
  rw [callL_fn (fn := f_strings_HasPrefix) rfl rfl]
  simp only [f_strings_HasPrefix, argEnv_cons, Nat.zero_add, Nat.reduceAdd, argEnv_nil, exL_seq, exL_ops, runOps_n, evalK_mov, rd_c, spent_c, opC_ok, put_d, runOps_nil, thenC_nrm, rd_mv, reduceCtorEq, get_ne, get_eq, takeV_d, spent_mv, Nat.reduceEqDiff, evalK_call, List.map_cons, List.map_nil, allLeave_cons, leaves_d, allLeave_nil, Bool.and_self, eCall_f, hp2_call, callC_some, spentAll_cons, spentAll_nil, Nat.min_self, exL_ret, finC_ret, resultVs_cons, resultV_t, ownV_d, resultVs_nil, consO_some, leaveC_1, ref_d, settle_d, leave_pure]
  all_goals rfl
abbrev sc (s : List Nat) (a : Nat) : Obj := .cells [.d (.s s), .d (.i .i64 (a : Int))]
theorem has_call {s t : List Nat} {a id : Nat} {H : List Obj} (hH : H[id]? = some (sc s a)) (ha : a ≤ s.length) : callL pg 45 [.ptr id 0, .d (.s t)] H = some ⟨false, true, .d (.b (pre t (s.drop a))), H, H.length⟩ := by
  rw [callL_fn (fn := f_scan_scanner_has) rfl rfl]
  have h2 := sl_drop ha
  simp only [f_scan_scanner_has, argEnv_cons, Nat.zero_add, Nat.reduceAdd, argEnv_nil, exL_seq, exL_ops, runOps_n, evalK_mov, rd_c, spent_c, opC_ok, put_d, runOps_nil, thenC_nrm, exL_opsD, runOpsD_n, rd_t, reduceCtorEq, get_ne, get_eq, readV_ptr, spent_t, opDC_same, putD_ptr, putC_some, evalK_nilCheck, okS_some, evalK_fieldAddr, faV_ptr, Nat.add_zero, evalK_load, loadV_ptr, hH, cellV_1, List.getElem?_cons_zero, Option.map_some, copy1_d, putD_d, List.getElem?_cons_succ, evalK_sliceS, Nat.reduceEqDiff, readV_d, optInt_some, oInt_i, optInt_none, cut2_some, h2, rd_mv, takeV_d, spent_mv, evalK_call, List.map_cons, List.map_nil, allLeave_cons, leaves_d, allLeave_nil, Bool.and_self, eCall_f, hp_call, callC_some, spentAll_cons, spentAll_nil, Nat.min_self, opDC_serial, runOpsD_nil, exL_ret, finC_ret, resultVs_cons, resultV_t, ownV_d, resultVs_nil, consO_some, leaveC_1, ref_d, settle_d, leave_pure]
  all_goals rfl
def cLt (c : Nat) : Bool := (decide (97 ≤ c) && decide (c ≤ 122)) || (decide (65 ≤ c) && decide (c ≤ 90))
def cDg (c : Nat) : Bool := decide (48 ≤ c) && decide (c ≤ 57)
def cHx (c : Nat) : Bool := cDg c || (decide (65 ≤ c) && decide (c ≤ 70))
def cNm (c : Nat) : Bool := cLt c || cDg c
def cTx (c : Nat) : Bool := decide (32 ≤ c) && !decide (c = 34)
theorem le_c {a c : Nat} : ((a : Int) ≤ (c : Int)) = (a ≤ c) := by simp
theorem letter_call {c : Nat} {H : List Obj} : callL pg 41 [.d (.i .u8 c)] H = some ⟨false, true, .d (.b (cLt c)), H, H.length⟩ := by
  rw [callL_fn (fn := f_scan_letter) rfl rfl]
  have e1 : ((97 : Int) ≤ (c : Int)) = (97 ≤ c) := by rw [eq_iff_iff]; omega
  have e2 : ((c : Int) ≤ 122) = (c ≤ 122) := by rw [eq_iff_iff]; omega
  have e3 : ((65 : Int) ≤ (c : Int)) = (65 ≤ c) := by rw [eq_iff_iff]; omega
  have e4 : ((c : Int) ≤ 90) = (c ≤ 90) := by rw [eq_iff_iff]; omega
  by_cases h1 : 97 ≤ c <;> by_cases h2 : c ≤ 122 <;> by_cases h3 : 65 ≤ c <;> by_cases h4 : c ≤ 90
  all_goals simp only [f_scan_letter, argEnv_cons, Nat.zero_add, argEnv_nil, exL_seq, exL_ops, runOps_n, evalK_mov, rd_c, spent_c, opC_ok, put_d, runOps_nil, thenC_nrm, rd_t, reduceCtorEq, get_ne, get_eq, readV_d, spent_t, evalK_bin, isC_t, isC_c, Bool.or_true, bin_geq, e1, h1, decide_true, okS_some, runOps_g, wantG_bt, wantC_b, ↓reduceIte, Nat.reduceEqDiff, bin_leq, e2, h2, evalK_pick, pickV_b, wantG_bf, Bool.not_true, Bool.false_eq_true, put_tup, wantG_t, readV_tup, pickV_t, exL_ret, finC_ret, resultVs_cons, resultV_t, ownV_d, resultVs_nil, consO_some, leaveC_1, leaves_d, ref_d, settle_d, leave_pure, cLt, Bool.and_self, h3, h4, Bool.or_self, decide_false, Bool.and_false, Bool.or_false, Bool.and_true, Bool.not_false, e3, e4, pickV_f]
  all_goals rfl
theorem digit_call {c : Nat} {H : List Obj} : callL pg 43 [.d (.i .u8 c)] H = some ⟨false, true, .d (.b (cDg c)), H, H.length⟩ := by
  rw [callL_fn (fn := f_scan_digit) rfl rfl]
  have e1 : ((48 : Int) ≤ (c : Int)) = (48 ≤ c) := by rw [eq_iff_iff]; omega
  have e2 : ((c : Int) ≤ 57) = (c ≤ 57) := by rw [eq_iff_iff]; omega
  by_cases h1 : 48 ≤ c <;> by_cases h2 : c ≤ 57
  all_goals simp only [f_scan_digit, argEnv_cons, Nat.zero_add, argEnv_nil, exL_seq, exL_ops, runOps_n, evalK_mov, rd_c, spent_c, opC_ok, put_d, runOps_nil, thenC_nrm, rd_t, reduceCtorEq, get_ne, get_eq, readV_d, spent_t, evalK_bin, isC_t, isC_c, Bool.or_true, bin_geq, e1, h1, decide_true, okS_some, runOps_g, wantG_bt, wantC_b, ↓reduceIte, Nat.reduceEqDiff, bin_leq, e2, h2, evalK_pick, pickV_b, exL_ret, finC_ret, resultVs_cons, resultV_t, ownV_d, resultVs_nil, consO_some, leaveC_1, leaves_d, ref_d, settle_d, leave_pure, cDg, Bool.and_self, decide_false, Bool.and_false, Bool.false_eq_true, put_tup, readV_tup, pickV_f, Bool.and_true]
  all_goals rfl
theorem hex_call {c : Nat} {H : List Obj} : callL pg 63 [.d (.i .u8 c)] H = some ⟨false, true, .d (.b (cHx c)), H, H.length⟩ := by
  rw [callL_fn (fn := f_scan_hex) rfl rfl]
  have e1 : ((65 : Int) ≤ (c : Int)) = (65 ≤ c) := by rw [eq_iff_iff]; omega
  have e2 : ((c : Int) ≤ 70) = (c ≤ 70) := by rw [eq_iff_iff]; omega
  have hd := digit_call (c := c) (H := H)
  cases hq : cDg c <;> rw [hq] at hd <;> by_cases h1 : 65 ≤ c <;> by_cases h2 : c ≤ 70
  all_goals simp only [f_scan_hex, argEnv_cons, Nat.zero_add, argEnv_nil, exL_seq, exL_ops, runOps_n, evalK_mov, rd_c, spent_c, opC_ok, put_d, runOps_nil, thenC_nrm, rd_t, reduceCtorEq, get_ne, get_eq, readV_d, spent_t, evalK_call, List.map_cons, List.map_nil, allLeave_cons, leaves_d, allLeave_nil, Bool.and_self, eCall_f, hd, callC_some, spentAll_cons, spentAll_nil, Nat.min_self, rd_mv, takeV_d, spent_mv, runOps_g, wantG_bf, Bool.not_false, wantC_b, ↓reduceIte, Nat.reduceEqDiff, evalK_bin, isC_t, isC_c, Bool.or_true, bin_geq, e1, h1, decide_true, okS_some, wantG_bt, bin_leq, e2, h2, evalK_pick, pickV_b, Bool.false_eq_true, exL_ret, finC_ret, resultVs_cons, resultV_t, ownV_d, resultVs_nil, consO_some, leaveC_1, ref_d, settle_d, leave_pure, cHx, hq, decide_false, Bool.and_false, Bool.or_self, put_tup, readV_tup, pickV_f, Bool.and_true, Bool.not_true, wantG_t, pickV_t, Bool.or_false]
  all_goals rfl
theorem named_call {c : Nat} {H : List Obj} : callL pg 61 [.d (.i .u8 c)] H = some ⟨false, true, .d (.b (cNm c)), H, H.length⟩ := by
  rw [callL_fn (fn := f_scan_named) rfl rfl]
  have hl := letter_call (c := c) (H := H)
  have hd := digit_call (c := c) (H := H)
  cases hq : cDg c <;> rw [hq] at hd <;> cases hr : cLt c <;> rw [hr] at hl
  all_goals simp only [f_scan_named, argEnv_cons, Nat.zero_add, argEnv_nil, exL_seq, exL_ops, runOps_n, evalK_mov, rd_c, spent_c, opC_ok, put_d, runOps_nil, thenC_nrm, rd_t, reduceCtorEq, get_ne, get_eq, readV_d, spent_t, evalK_call, List.map_cons, List.map_nil, allLeave_cons, leaves_d, allLeave_nil, Bool.and_self, eCall_f, hl, callC_some, spentAll_cons, spentAll_nil, Nat.min_self, rd_mv, takeV_d, spent_mv, runOps_g, wantG_bf, Bool.not_false, wantC_b, ↓reduceIte, Nat.reduceEqDiff, hd, evalK_pick, pickV_b, Bool.false_eq_true, okS_some, exL_ret, finC_ret, resultVs_cons, resultV_t, ownV_d, resultVs_nil, consO_some, leaveC_1, ref_d, settle_d, leave_pure, cNm, hr, hq, Bool.or_self, Bool.not_true, put_tup, readV_tup, pickV_t, Bool.or_false, Bool.or_true]
  all_goals rfl
theorem text1_call {c : Nat} {H : List Obj} : callL pg 66 [.d (.i .u8 c)] H = some ⟨false, true, .d (.b (cTx c)), H, H.length⟩ := by
  rw [callL_fn (fn := f_scan_scanner_text_1) rfl rfl]
  have e1 : ((32 : Int) ≤ (c : Int)) = (32 ≤ c) := by rw [eq_iff_iff]; omega
  have e2 : ((c : Int) = 34) = (c = 34) := by rw [eq_iff_iff]; omega
  by_cases h1 : 32 ≤ c <;> by_cases h2 : c = 34
  all_goals simp only [f_scan_scanner_text_1, h2, Int.cast_ofNat_Int, argEnv_cons, Nat.zero_add, argEnv_nil, exL_seq, exL_ops, runOps_n, evalK_mov, rd_c, spent_c, opC_ok, put_d, runOps_nil, thenC_nrm, rd_t, reduceCtorEq, get_ne, get_eq, readV_d, spent_t, evalK_bin, isC_t, isC_c, Bool.or_true, bin_geq, Int.reduceLE, decide_true, okS_some, runOps_g, wantG_bt, wantC_b, ↓reduceIte, Nat.reduceEqDiff, bin_neq, Bool.not_true, evalK_pick, pickV_b, exL_ret, finC_ret, resultVs_cons, resultV_t, ownV_d, resultVs_nil, consO_some, leaveC_1, leaves_d, ref_d, settle_d, leave_pure, cTx, Nat.reduceLeDiff, Bool.and_false, e1, h1, e2, decide_false, Bool.not_false, Bool.and_self, Bool.false_eq_true, put_tup, readV_tup, pickV_f, Bool.and_true]
  all_goals rfl
def run (P : Nat → Bool) : List Nat → Nat
  | [] => 0
  | c :: l => bif P c then run P l + 1 else 0
theorem run_le (P : Nat → Bool) : ∀ l, run P l ≤ l.length
  | [] => Nat.le_refl _
  | c :: l => by simp only [run]; cases P c <;> simp [run_le P l]
theorem fail_call {a e : Int} {H : List Obj} : callL pg 59 [.d (.i .i64 a), .d (.i .i64 e)] H = some ⟨true, true, .ifc 66 (.d (.agg [.i .i64 a, .i .i64 e])), H, H.length⟩ := by
  rw [callL_fn (fn := f_scan_fail) rfl rfl]
  simp only [f_scan_fail, argEnv_cons, Nat.zero_add, Nat.reduceAdd, argEnv_nil, exL_ops, runOps_n, evalK_mov, rd_t, get_eq, readV_d, spent_t, opC_ok, put_d, Nat.reduceEqDiff, get_ne, reduceCtorEq, evalK_build, List.map_cons, List.map_nil, one_i, cells_d1, vone_d, List.length_cons, List.length_nil, Nat.reduceLT, fillC_1, List.set_cons_zero, List.set_cons_succ, fillC_nil, aggO_some, mkAgg_eq, allD_d, allD_nil, consD_some, aggV_some, okS_some, dones_cons, dones_nil, Bool.and_self, Nat.reduceLeDiff, fillC_A, List.take_zero, List.nil_append, List.drop_succ_cons, List.drop_zero, List.append_nil, evalK_mkIfc, mkIfcV_d, put_ifc, evalK_panic, readV_ifc, panV_ifc, opC_pan, finC_pan, leaves_ifc, ok_d, ref_ifc, ref_d, settle_ifc, leave_pure]
  all_goals rfl
theorem drop_cons {s : List Nat} {a : Nat} (h : a < s.length) : s.drop a = s[a] :: s.drop (a + 1) := by simp
theorem while_loop {F : Nat} {P : Nat → Bool} (hF : ∀ c H, callL pg F [.d (.i .u8 ((c : Nat) : Int))] H = some ⟨false, true, .d (.b (P c)), H, H.length⟩) {s : List Nat} (hz : s.length ≤ 1000000) {id : Nat} {z : Int} :
    ∀ (k a : Nat) (H : List Obj), s.length - a = k → a ≤ s.length → H[id]? = some (sc s a) → ∀ lo, lo ≤ H.length → ∃ lo', min lo id ≤ lo' ∧ (run P (s.drop a) = 0 ∨ lo' ≤ id) ∧ lo' ≤ lo ∧ blockC 0 [0, 5] (f_scan_scanner_while_l0 pg (.ptr id 0) (.fn F [] []) (.d (.i .i64 z)) H lo) = some (.nrm, ⟨[(0, .ptr id 0), (5, .d (.i .i64 z))], setAt H id (sc s (a + run P (s.drop a))), lo'⟩) := by
  intro k
  induction k with
  | zero =>
    intro a H hk ha hH lo hlo
    obtain rfl : a = s.length := by omega
    have h1 : ((s.length : Int) < (s.length : Int)) = False := by simp
    have hr : run P (s.drop s.length) = 0 := by simp [run]
    refine ⟨lo, Nat.min_le_left _ _, .inl hr, Nat.le_refl _, ?_⟩
    rw [f_scan_scanner_while_l0_eq]
    simp only [f_scan_scanner_while_B0, keepV_ptr, keepV_fn, keepV_d, exL_seq, exL_opsD, runOpsD_n, evalK_mov, rd_t, get_eq, readV_ptr, spent_t, opDC_same, putD_ptr, putC_some, evalK_nilCheck, okS_some, evalK_fieldAddr, faV_ptr, Nat.zero_add, evalK_load, loadV_ptr, hH, cellV_1, List.getElem?_cons_succ, List.getElem?_cons_zero, Option.map_some, copy1_d, putD_d, reduceCtorEq, get_ne, Nat.add_zero, evalK_lenS, readV_d, lenS_s, evalK_bin, isC_t, Bool.or_self, Nat.reduceEqDiff, bin_lss, h1, decide_false, opDC_serial, runOpsD_g, wantG_bt, wantDC_b, Bool.false_eq_true, ↓reduceIte, put_tup, evalK_pick, readV_tup, rd_c, pickV_f, runOpsD_nil, thenC_nrm, exL_cond, condC_b, exL_exit, thenC_exit, blockC_exit, restrict_cons, restrict_nil]
    rw [hr, Nat.add_zero, setAt_self hH]
    all_goals rfl
  | succ k ih =>
    intro a H hk ha hH lo hlo
    have h1 : ((a : Int) < (s.length : Int)) = True := by rw [eq_iff_iff]; simp; omega
    have hlt : a < s.length := by omega
    have hix : ixV (.d (.s s)) (.d (.i .i64 (a : Int))) = some (.d (.i .u8 ((s[a] : Nat) : Int))) := ixV_s (by omega) (by simp)
    have hw : wr .i64 ((a : Int) + 1) = ((a + 1 : Nat) : Int) := by rw [wr_i64 (by omega) (by omega)]; omega
    have hf := hF s[a] H
    have hdr := drop_cons hlt
    rw [f_scan_scanner_while_l0_eq]
    have hm : min lo H.length = lo := by omega
    cases hp : P s[a] with
    | false =>
      rw [hp] at hf
      have hr : run P (s.drop a) = 0 := by rw [hdr]; simp [run, hp]
      refine ⟨lo, Nat.min_le_left _ _, .inl hr, Nat.le_refl _, ?_⟩
      simp only [f_scan_scanner_while_B0, keepV_ptr, keepV_fn, keepV_d, exL_seq, exL_opsD, runOpsD_n, evalK_mov, rd_t, get_eq, readV_ptr, spent_t, opDC_same, putD_ptr, putC_some, evalK_nilCheck, okS_some, evalK_fieldAddr, faV_ptr, Nat.zero_add, evalK_load, loadV_ptr, hH, cellV_1, List.getElem?_cons_succ, List.getElem?_cons_zero, Option.map_some, copy1_d, putD_d, reduceCtorEq, get_ne, Nat.add_zero, evalK_lenS, readV_d, lenS_s, evalK_bin, isC_t, Bool.or_self, Nat.reduceEqDiff, bin_lss, h1, decide_true, opDC_serial, runOpsD_g, wantG_bt, wantDC_b, ↓reduceIte, readV_fn, putD_fn, evalK_index, hix, evalK_call, eCall_t, List.map_cons, List.map_nil, allLeave_cons, leaves_d, allLeave_nil, Bool.and_self, callV_fn, hf, callC_some, spentAll_cons, spentAll_nil, hm, evalK_pick, rd_c, pickV_b, runOpsD_nil, thenC_nrm, exL_cond, condC_b, Bool.false_eq_true, exL_exit, thenC_exit, blockC_exit, restrict_cons, restrict_nil]
      rw [hr, Nat.add_zero, setAt_self hH]
      all_goals rfl
    | true =>
      rw [hp] at hf
      have hr : a + run P (s.drop a) = (a + 1) + run P (s.drop (a + 1)) := by rw [hdr]; simp only [run, hp, cond_true]; omega
      have hid : id < H.length := (List.getElem?_eq_some_iff.1 hH).1
      have hH2 : (setAt H id (sc s (a + 1)))[id]? = some (sc s (a + 1)) := setAt_get hH
      obtain ⟨lo', g1, g2, g3, ih'⟩ := ih (a + 1) (setAt H id (sc s (a + 1))) (by omega) (by omega) hH2 (min lo id) (by simp only [setAt_length]; omega)
      rw [hr]
      rw [setAt_setAt] at ih'
      refine ⟨lo', by omega, .inr (by omega), by omega, ?_⟩
      simp only [f_scan_scanner_while_B0, keepV_ptr, keepV_fn, keepV_d, exL_seq, exL_opsD, runOpsD_n, evalK_mov, rd_t, get_eq, readV_ptr, spent_t, opDC_same, putD_ptr, putC_some, evalK_nilCheck, okS_some, evalK_fieldAddr, faV_ptr, Nat.zero_add, evalK_load, loadV_ptr, hH, cellV_1, List.getElem?_cons_succ, List.getElem?_cons_zero, Option.map_some, copy1_d, putD_d, reduceCtorEq, get_ne, Nat.add_zero, evalK_lenS, readV_d, lenS_s, evalK_bin, isC_t, Bool.or_self, Nat.reduceEqDiff, bin_lss, h1, decide_true, opDC_serial, runOpsD_g, wantG_bt, wantDC_b, ↓reduceIte, readV_fn, putD_fn, evalK_index, hix, evalK_call, eCall_t, List.map_cons, List.map_nil, allLeave_cons, leaves_d, allLeave_nil, Bool.and_self, callV_fn, hf, callC_some, spentAll_cons, spentAll_nil, hm, evalK_pick, rd_c, pickV_b, runOpsD_nil, thenC_nrm, exL_cond, condC_b, exL_skip, exL_block, exL_ops, runOps_n, opC_ok, put_ptr, put_d, isC_c, Bool.or_true, bin_add, hw, evalK_store, storeV_P, one_i, cells_d1, List.length_cons, List.length_nil, ones_cons, vone_d, ones_nil, storeP_cells, Nat.reduceAdd, Nat.reduceLT, setCells_1, List.set_cons_succ, List.set_cons_zero, storePR_some, put_none, runOps_nil, blockC_nrm, restrict_cons, restrict_nil, f_scan_scanner_while_l0_in]
      exact ih'
theorem while_call {F : Nat} {P : Nat → Bool} (hF : ∀ c H, callL pg F [.d (.i .u8 ((c : Nat) : Int))] H = some ⟨false, true, .d (.b (P c)), H, H.length⟩) {s : List Nat} (hz : s.length ≤ 1000000) {id a : Nat} {H : List Obj} (ha : a ≤ s.length) (hH : H[id]? = some (sc s a)) :
    ∃ sm lo, id ≤ lo ∧ lo ≤ H.length ∧ (run P (s.drop a) = 0 ∨ lo ≤ id) ∧ callL pg 60 [.ptr id 0, .fn F [] []] H = some ⟨false, sm, .d (.s ((s.drop a).take (run P (s.drop a)))), setAt H id (sc s (a + run P (s.drop a))), lo⟩ := by
  have hid : id < H.length := (List.getElem?_eq_some_iff.1 hH).1
  obtain ⟨lo, g1, g2, g3, hl⟩ := while_loop hF hz (z := (a : Int)) (s.length - a) a H rfl ha hH H.length (Nat.le_refl _)
  have hle := run_le P (s.drop a)
  simp only [List.length_drop] at hle
  have hH2 : (setAt H id (sc s (a + run P (s.drop a))))[id]? = some (sc s (a + run P (s.drop a))) := setAt_get hH
  have hm := sl_mid (l := s) (a := a) (b := a + run P (s.drop a)) (by omega) (by omega)
  have hmm : (s.take (a + run P (s.drop a))).drop a = (s.drop a).take (run P (s.drop a)) := by
    rw [List.drop_take]; congr 1; omega
  rw [hmm] at hm
  rw [callL_fn (fn := f_scan_scanner_while) rfl rfl]
  have hlv := fun (e : Env) => leave_sc (pan := false) (v := .d (.s ((s.drop a).take (run P (s.drop a))))) (e := e) (lo := lo) (o := sc s (a + run P (s.drop a))) rfl rfl (fun _ => rfl) (by
    rcases g2 with h | h
    · left; rw [h, Nat.add_zero]; exact setAt_self hH
    · right; exact h) hid
  simp only [f_scan_scanner_while, argEnv_cons, Nat.zero_add, Nat.reduceAdd, argEnv_nil, exL_seq, exL_ops, runOps_n, evalK_mov, rd_c, spent_c, opC_ok, put_d, runOps_nil, thenC_nrm, rd_t, reduceCtorEq, get_ne, get_eq, readV_ptr, spent_t, put_ptr, evalK_nilCheck, okS_some, evalK_fieldAddr, faV_ptr, evalK_load, loadV_ptr, hH, cellV_1, List.getElem?_cons_succ, List.getElem?_cons_zero, Option.map_some, copy1_d, readV_d, exL_block, f_scan_scanner_while_l0_in, keepV_ptr, Nat.reduceEqDiff, keepV_fn, keepV_d]
  rw [hl]
  simp only [f_scan_scanner_while_R1, thenC_nrm, exL_seq, exL_opsD, runOpsD_n, evalK_mov, rd_t, get_eq, readV_ptr, spent_t, opDC_same, putD_ptr, putC_some, evalK_nilCheck, okS_some, evalK_fieldAddr, faV_ptr, Nat.add_zero, evalK_load, loadV_ptr, hH2, cellV_1, List.getElem?_cons_zero, Option.map_some, copy1_d, putD_d, Nat.reduceEqDiff, get_ne, reduceCtorEq, readV_d, Nat.zero_add, List.getElem?_cons_succ, evalK_sliceS, optInt_some, oInt_i, cut2_some, hm, opDC_serial, runOpsD_nil, exL_ret, finC_ret, resultVs_cons, resultV_t, ownV_d, resultVs_nil, consO_some, leaveC_1]
  obtain ⟨sm, h⟩ := hlv _
  exact ⟨sm, lo, by omega, by omega, g2, h⟩
end W

/- A call of no arguments whose result is data is the same beside whatever objects there are. -/
set_option linter.unusedSimpArgs false
set_option linter.unusedVariables false
namespace W
open Go (World Value Addr IntKind Program TypeId FuncId)
theorem frame_sim {P : Program} {M : Maps} {call : Call} (hsim : CallSim P M call) {i : Nat} {x : D} {H1 : List Obj} {lo : Nat} {same : Bool} (h : call i [] [] = some ⟨false, same, .d x, H1, lo⟩)
    {f' : FuncId} (hl : look M.fm f' = some i) {g : Gh} {w : World} {H : List Obj} (hH : RelH M g w H) : Does P f' #[] w (CallPost M g w ⟨false, true, .d x, H, H.length⟩) := by
  have hH0 : RelH M { n := 0, φ := fun _ => 0, own := fun _ => none, pub := g.pub } w [] := ⟨rfl, fun id o h => by simp at h, fun b hb => ⟨rfl, (hH.fresh b hb).2⟩, hH.gl⟩
  have hd := hsim i [] [] _ h f' hl _ w [] (.nil _) hH0
  intro o a K Q hK hQ
  refine hd o a K Q ?_ ?_
  · rintro v w' ⟨_, g1, hR1, hE, hA⟩
    refine hK v w' ?_
    have hb : ∀ b, b < w.heap.size → w'.heap[b]? = w.heap[b]? ∧ g1.pub b = g.pub b := fun b hb => (hE.keep b hb (.inl rfl)).2
    have hg : Grow g w { n := g.n, φ := g.φ, own := fun b => if b < w.heap.size then g.own b else none, pub := g1.pub } w' := ⟨hE.size, hE.pub, hE.cell⟩
    have hlt : ∀ b ℓ, g.own b = some ℓ → b < w.heap.size := fun b ℓ ho => by
      rcases Nat.lt_or_ge b w.heap.size with h1 | h1
      · exact h1
      · rw [(hH.fresh b h1).1] at ho; cases ho
    have hk : ∀ ℓ, Kept g w { n := g.n, φ := g.φ, own := fun b => if b < w.heap.size then g.own b else none, pub := g1.pub } w' ℓ := fun ℓ => ⟨fun b ho => by
      have := hlt b ℓ ho
      exact ⟨by simp only [this, if_true]; exact ho, (hb b this).1, (hb b this).2⟩⟩
    refine ⟨rfl, { n := g.n, φ := g.φ, own := fun b => if b < w.heap.size then g.own b else none, pub := g1.pub }, ⟨hH.n, fun id o ho => (hH.h id o ho).mono hg (Nat.le_refl _) (fun _ _ => rfl) (by rw [hH.n]; exact (List.getElem?_eq_some_iff.1 ho).1) (hk _) (fun i => hk _), fun b hb' => ⟨?_, (hR1.fresh b hb').2⟩, hH.gl.mono hg⟩, ⟨hg, Nat.le_refl _, fun _ _ => rfl, fun b hb' ho => ⟨by simp only [hb', if_true], (hb b hb').1, (hb b hb').2⟩, hE.io⟩, ?_⟩
    · have : ¬ b < w.heap.size := by have := hE.size; omega
      simp only [this, if_false]
    · cases hA with
      | s hA => cases hA with
        | d _ _ hr => exact .s (.d _ _ hr)
  · rintro ch w' ⟨hp, _⟩
    cases hp
end W

/- What stands in for strings.IndexByte, strconv.toError and scan.Keywords does what these do. -/
set_option linter.unusedSimpArgs false
set_option linter.unusedVariables false
namespace W
open Go (World Value Addr IntKind Program TypeId FuncId Func Calls Code)
def IxC (P : Program) (K : FuncId) : Prop :=
  ∀ (s : ByteArray) (c : Int) (w : World), Calls P K #[.string s, .int .u8 c] w fun e w' => e = .returned (.int .i64 (Go.Lib.indexByte s.data.toList c.toNat.toUInt8)) ∧ w' = w
def TeC (P : Program) (K : FuncId) (gl : Nat) (code : Int) : Prop :=
  ∀ (fn s : ByteArray) (base bits : Int) (ev : Value) (w : World), s.size ≤ 281474976710656 → w.cell? ⟨gl, 0, none⟩ = some ev → (ev = .nilIface ∨ ∃ te pe, ev = .iface te pe) →
    Calls P K #[.string fn, .string s, .int .i64 base, .int .i64 bits, .iface 110 (.int .i64 code)] w fun e w' => ∃ N, e = .returned (.iface 112 (.pointer (some ⟨N, 0, none⟩))) ∧ Go.RowKit.Below w.heap.size w w'
theorem ixN_eq (c : Nat) : ∀ l : List UInt8, ixN (c % 256) (l.map (·.toNat)) = Go.Lib.indexByte l c.toUInt8
  | [] => rfl
  | b :: l => by
    have ih := ixN_eq c l
    have hge := Go.Lib.indexByte_ge l c.toUInt8
    have hb : Nat.beq b.toNat (c % 256) = (b == c.toUInt8) := by
      have hc : c.toUInt8.toNat = c % 256 := by simp [Nat.toUInt8]
      rw [← hc]
      by_cases h : b = c.toUInt8
      · subst h; simp
      · have h2 : ¬ b.toNat = c.toUInt8.toNat := fun e => h (UInt8.toNat_inj.1 e)
        have h3 : Nat.beq b.toNat c.toUInt8.toNat = false := by rw [Bool.eq_false_iff]; intro e; exact h2 (Nat.eq_of_beq_eq_true e)
        rw [h3]; symm; simpa using h
    simp only [List.map_cons, ixN, Go.Lib.indexByte, hb]
    cases b == c.toUInt8 with
    | true => rfl
    | false =>
      simp only [cond_false, Bool.false_eq_true, if_false]
      rw [ih]
      generalize Go.Lib.indexByte l c.toUInt8 = v at hge ⊢
      cases v with
      | ofNat n => simp
      | negSucc m =>
        have : m = 0 := by omega
        subst this
        rfl
theorem ixX_sim {P : Program} {M : Maps} {K : FuncId} (hI : IxC P K) {fn : Func} {c : Code} (hf : P.funcs[K]? = some fn) (hname : (fn.name == "runtime.NumGoroutine") = false) (hbody : fn.body = some c)
    {g : Gh} {w : World} {vs : List V} {H : List Obj} {r : Cr} (h : ixX vs H = some r) {argv : List Value} (ha : ArgsRep M g w 0 vs argv) (hH : RelH M g w H) : Does P K argv.toArray w (CallPost M g w r) := by
  refine does_of_calls ⟨?_, ?_⟩
  · unfold ixX at h
    split at h
    · simp only [Option.some.injEq] at h
      subst h
      cases ha with
      | cons h0 ha => cases ha with
        | cons h1 ha => cases ha; cases h0 with
          | s h0 => cases h0 with
            | d _ _ h0 => cases h0 with
              | s _ x hx => cases h1 with
                | s h1 => cases h1 with
                  | d _ _ h1 => cases h1 with
                    | i k n =>
                      refine (hI x _ w).mono ?_
                      rintro e w' ⟨rfl, rfl⟩
                      refine ⟨rfl, g, hH, Evo.refl g w', .s (.d _ _ ?_)⟩
                      rw [← hx, ixN_eq]
                      exact .i _ _
    · cases h
  · have hn : ¬ fn.name = "runtime.NumGoroutine" := by simpa using hname
    simp [Go.callFunc, hf, hn, hbody]
theorem teX_sim {P : Program} {M : Maps} {K : FuncId} {gS gR : Nat} (hS : TeC P K gS 2) (hR : TeC P K gR 1) (mS : gS ∈ M.gi) (mR : gR ∈ M.gi) (m2 : look M.tm 112 = some 112) (m0 : ∀ t', look M.tm t' = some 110 → t' = 110)
    {fn : Func} {c : Code} (hf : P.funcs[K]? = some fn) (hname : (fn.name == "runtime.NumGoroutine") = false) (hbody : fn.body = some c)
    {g : Gh} {w : World} {vs : List V} {H : List Obj} {r : Cr} (h : teX vs H = some r) {argv : List Value} (ha : ArgsRep M g w 0 vs argv) (hH : RelH M g w H) : Does P K argv.toArray w (CallPost M g w r) := by
  refine does_of_calls ⟨?_, ?_⟩
  · unfold teX at h
    split at h
    · rename_i f t k1 k2 e
      rw [Bool.cond_eq_ite] at h
      split at h
      · rename_i hb
        simp only [Option.some.injEq] at h
        subst h
        simp only [Bool.and_eq_true, Bool.or_eq_true, Nat.ble_eq] at hb
        have hcode : e = 1 ∨ e = 2 := by
          rcases hb.1 with h | h
          · left; rw [eqI_d] at h; exact of_decide_eq_true h
          · right; rw [eqI_d] at h; exact of_decide_eq_true h
        obtain ⟨⟨evS, hvS, hevS⟩, _⟩ := hH.gl.2 gS mS
        obtain ⟨⟨evR, hvR, hevR⟩, _⟩ := hH.gl.2 gR mR
        cases ha with
        | cons h0 ha => cases ha with
          | cons h1 ha => cases ha with
            | cons h2 ha => cases ha with
              | cons h3 ha => cases ha with
                | cons h4 ha => cases ha; cases h0 with
                  | s h0 => cases h0 with
                    | d _ _ h0 => cases h0 with
                      | s _ x hx => cases h1 with
                        | s h1 => cases h1 with
                          | d _ _ h1 => cases h1 with
                            | s _ y hy => cases h2 with
                              | s h2 => cases h2 with
                                | d _ _ h2 => cases h2 with
                                  | i _ _ => cases h3 with
                                    | s h3 => cases h3 with
                                      | d _ _ h3 => cases h3 with
                                        | i _ _ => cases h4 with
                                          | s h4 => cases h4 with
                                            | ifc _ t' _ cv ht hcv => cases hcv with
                                              | d _ _ hcv => cases hcv with
                                                | i _ _ =>
                                                  have e1 := m0 t' ht
                                                  subst e1
                                                  have hsz : y.size ≤ 281474976710656 := by
                                                    have := congrArg List.length hy
                                                    rw [List.length_map] at this
                                                    have h2 : y.data.toList.length = y.size := Array.length_toList
                                                    omega
                                                  have post : ∀ e w', (∃ N, e = .returned (.iface 112 (.pointer (some ⟨N, 0, none⟩))) ∧ Go.RowKit.Below w.heap.size w w') → CallPost M g w ⟨false, true, .ifc 112 .undef, H, H.length⟩ e w' := by
                                                    rintro e w' ⟨N, rfl, hB⟩
                                                    obtain ⟨q1, q2⟩ := below_evo hH hB
                                                    exact ⟨rfl, g, q1, q2, .s (.ifc _ 112 _ _ m2 (.undef _))⟩
                                                  rcases hcode with rfl | rfl
                                                  · exact (hR x y _ _ evR w hsz hvR hevR).mono post
                                                  · exact (hS x y _ _ evS w hsz hvS hevS).mono post
      · cases h
    · cases h
  · have hn : ¬ fn.name = "runtime.NumGoroutine" := by simpa using hname
    simp [Go.callFunc, hf, hn, hbody]
end W

/- The contracts of strings.IndexByte and strconv.toError at this program, laid by the shelf's program. -/
namespace Go.Proofs
open Go.Shelf
def Tryd.lays137_ren : Go.Shelf.Ren := ⟨fun | 137 => 58 | 217 => 73 | 266 => 84 | n => n, fun | 9 => 9 | 5 => 5 | 3 => 3 | n => n, fun | n => n⟩
theorem Tryd.lays137 : Go.Proofs.Lays.n137 Tryd.prog Tryd.lays137_ren := {
  mixed := by kernel_rfl
  f137 := Tryd.func58.trans (congrArg some (by kernel_rfl))
  f217 := Tryd.func73.trans (congrArg some (by kernel_rfl))
  f266 := Tryd.func84.trans (congrArg some (by kernel_rfl))
  t3 := Tryd.underlying3
  a3 := Tryd.isAgg3
  z3 := Tryd.sizeOf3
  v3 := Tryd.zeroValue3
  t5 := Tryd.underlying5
  a5 := Tryd.isAgg5
  z5 := Tryd.sizeOf5
  v5 := Tryd.zeroValue5
  t9 := Tryd.underlying9
  a9 := Tryd.isAgg9
  z9 := Tryd.sizeOf9
  v9 := Tryd.zeroValue9 }
open Go.RowKit in
theorem Tryd.strings_IndexByte (s : ByteArray) (c : Int) (w : World) :
    Calls Tryd.prog 58 #[.string s, .int .u8 c] w fun e w' => e = .returned (.int .i64 (Lib.indexByte s.data.toList c.toNat.toUInt8)) ∧ w' = w := Any.strings_IndexByte Tryd.lays137 s c w
def Tryd.laysPu17_ren : Go.Shelf.Ren := ⟨fun | 17 => 76 | 21 => 87 | 22 => 88 | 23 => 89 | 24 => 90 | 25 => 92 | 27 => 94 | 26 => 93 | 28 => 95 | 29 => 96 | 30 => 97 | 31 => 98 | 32 => 99 | 33 => 100 | 35 => 102 | 34 => 101 | 36 => 103 | 37 => 104 | 38 => 105 | 39 => 106 | 40 => 107 | n => n, fun | 9 => 9 | 3 => 3 | 24 => 89 | 34 => 110 | 4 => 4 | 39 => 112 | 44 => 121 | 37 => 33 | 0 => 0 | 47 => 123 | 50 => 126 | 48 => 124 | 2 => 2 | 52 => 128 | 22 => 29 | 5 => 5 | 55 => 131 | 59 => 134 | 60 => 84 | 20 => 20 | 61 => 135 | 36 => 30 | 65 => 139 | 66 => 140 | 67 => 76 | n => n, fun | 0 => 3 | 1 => 4 | 2 => 5 | 3 => 6 | 4 => 7 | n => n⟩
theorem Tryd.laysPu17 : Go.Proofs.LaysPu.n17 Tryd.prog Tryd.laysPu17_ren := {
  mixed := by kernel_rfl
  f17 := Tryd.func76.trans (congrArg some (by kernel_rfl))
  f21 := Tryd.func87.trans (congrArg some (by kernel_rfl))
  f22 := Tryd.func88.trans (congrArg some (by kernel_rfl))
  f23 := Tryd.func89.trans (congrArg some (by kernel_rfl))
  f24 := Tryd.func90.trans (congrArg some (by kernel_rfl))
  f25 := Tryd.func92.trans (congrArg some (by kernel_rfl))
  f26 := Tryd.func93.trans (congrArg some (by kernel_rfl))
  f27 := Tryd.func94.trans (congrArg some (by kernel_rfl))
  f28 := Tryd.func95.trans (congrArg some (by kernel_rfl))
  f29 := Tryd.func96.trans (congrArg some (by kernel_rfl))
  f30 := Tryd.func97.trans (congrArg some (by kernel_rfl))
  f31 := Tryd.func98.trans (congrArg some (by kernel_rfl))
  f32 := Tryd.func99.trans (congrArg some (by kernel_rfl))
  f33 := Tryd.func100.trans (congrArg some (by kernel_rfl))
  f34 := Tryd.func101.trans (congrArg some (by kernel_rfl))
  f35 := Tryd.func102.trans (congrArg some (by kernel_rfl))
  f36 := Tryd.func103.trans (congrArg some (by kernel_rfl))
  f37 := Tryd.func104.trans (congrArg some (by kernel_rfl))
  f38 := Tryd.func105.trans (congrArg some (by kernel_rfl))
  f39 := Tryd.func106.trans (congrArg some (by kernel_rfl))
  f40 := Tryd.func107.trans (congrArg some (by kernel_rfl))
  t0 := Tryd.underlying0
  a0 := Tryd.isAgg0
  z0 := Tryd.sizeOf0
  v0 := Tryd.zeroValue0
  i0 := by kernel_rfl
  t2 := Tryd.underlying2
  a2 := Tryd.isAgg2
  z2 := Tryd.sizeOf2
  v2 := Tryd.zeroValue2
  i2 := by kernel_rfl
  t3 := Tryd.underlying3
  a3 := Tryd.isAgg3
  z3 := Tryd.sizeOf3
  v3 := Tryd.zeroValue3
  i3 := by kernel_rfl
  t4 := Tryd.underlying4
  a4 := Tryd.isAgg4
  z4 := Tryd.sizeOf4
  v4 := Tryd.zeroValue4
  i4 := by kernel_rfl
  t5 := Tryd.underlying5
  a5 := Tryd.isAgg5
  z5 := Tryd.sizeOf5
  v5 := Tryd.zeroValue5
  i5 := by kernel_rfl
  t9 := Tryd.underlying9
  a9 := Tryd.isAgg9
  z9 := Tryd.sizeOf9
  v9 := Tryd.zeroValue9
  i9 := by kernel_rfl
  t20 := Tryd.underlying20
  a20 := Tryd.isAgg20
  z20 := Tryd.sizeOf20
  v20 := Tryd.zeroValue20
  i20 := by kernel_rfl
  t22 := Tryd.underlying29
  a22 := Tryd.isAgg29
  z22 := Tryd.sizeOf29
  v22 := Tryd.zeroValue29
  i22 := by kernel_rfl
  t24 := Tryd.underlying89
  a24 := Tryd.isAgg89
  z24 := Tryd.sizeOf89
  v24 := Tryd.zeroValue89
  i24 := by kernel_rfl
  t34 := Tryd.underlying110
  a34 := Tryd.isAgg110
  z34 := Tryd.sizeOf110
  v34 := Tryd.zeroValue110
  i34 := by kernel_rfl
  c34 := by kernel_rfl
  t36 := Tryd.underlying30
  a36 := Tryd.isAgg30
  z36 := Tryd.sizeOf30
  v36 := Tryd.zeroValue30
  i36 := by kernel_rfl
  t37 := Tryd.underlying33
  a37 := Tryd.isAgg33
  z37 := Tryd.sizeOf33
  v37 := Tryd.zeroValue33
  i37 := by kernel_rfl
  t39 := Tryd.underlying112
  a39 := Tryd.isAgg112
  z39 := Tryd.sizeOf112
  v39 := Tryd.zeroValue112
  i39 := by kernel_rfl
  t44 := Tryd.underlying121
  a44 := Tryd.isAgg121
  z44 := Tryd.sizeOf121
  v44 := Tryd.zeroValue121
  i44 := by kernel_rfl
  t47 := Tryd.underlying123
  a47 := Tryd.isAgg123
  z47 := Tryd.sizeOf123
  v47 := Tryd.zeroValue123
  i47 := by kernel_rfl
  t48 := Tryd.underlying124
  a48 := Tryd.isAgg124
  z48 := Tryd.sizeOf124
  v48 := Tryd.zeroValue124
  i48 := by kernel_rfl
  t50 := Tryd.underlying126
  a50 := Tryd.isAgg126
  z50 := Tryd.sizeOf126
  v50 := Tryd.zeroValue126
  i50 := by kernel_rfl
  t52 := Tryd.underlying128
  a52 := Tryd.isAgg128
  z52 := Tryd.sizeOf128
  v52 := Tryd.zeroValue128
  i52 := by kernel_rfl
  t55 := Tryd.underlying131
  a55 := Tryd.isAgg131
  z55 := Tryd.sizeOf131
  v55 := Tryd.zeroValue131
  i55 := by kernel_rfl
  t59 := Tryd.underlying134
  a59 := Tryd.isAgg134
  z59 := Tryd.sizeOf134
  v59 := Tryd.zeroValue134
  i59 := by kernel_rfl
  t60 := Tryd.underlying84
  a60 := Tryd.isAgg84
  z60 := Tryd.sizeOf84
  v60 := Tryd.zeroValue84
  i60 := by kernel_rfl
  t61 := Tryd.underlying135
  a61 := Tryd.isAgg135
  z61 := Tryd.sizeOf135
  t65 := Tryd.underlying139
  a65 := Tryd.isAgg139
  z65 := Tryd.sizeOf139
  v65 := Tryd.zeroValue139
  i65 := by kernel_rfl
  t66 := Tryd.underlying140
  a66 := Tryd.isAgg140
  z66 := Tryd.sizeOf140
  v66 := Tryd.zeroValue140
  i66 := by kernel_rfl
  t67 := Tryd.underlying76
  a67 := Tryd.isAgg76
  z67 := Tryd.sizeOf76
  v67 := Tryd.zeroValue76
  i67 := by kernel_rfl
  g0 := by kernel_rfl
  m0 := by kernel_rfl
  g1 := by kernel_rfl
  m1 := by kernel_rfl
  g2 := by kernel_rfl
  m2 := by kernel_rfl
  g3 := by kernel_rfl
  m3 := by kernel_rfl
  g4 := by kernel_rfl
  m4 := by kernel_rfl }
open Go.RowKit in
theorem Tryd.toError_syntax (fn s : ByteArray) (base bits : Int) (ev : Value) (w : World) (hlim : s.size ≤ 281474976710656) (hv : w.cell? ⟨(Tryd.laysPu17_ren.g 0), 0, none⟩ = some ev) (hev : ev = .nilIface ∨ ∃ te pe, ev = .iface te pe) :
    Calls Tryd.prog 76 #[.string fn, .string s, .int .i64 base, .int .i64 bits, .iface 110 (.int .i64 2)] w fun e w' => ∃ N, e = .returned (.iface 112 (.pointer (some ⟨N, 0, none⟩))) ∧ w.heap.size ≤ N ∧ w'.heap[N]? = some (.cells #[.string fn, .string s, ev] (Tryd.laysPu17_ren.t 44) (0, 0)) ∧ Below w.heap.size w w' := AnyPu.strconv_toError_syntax Tryd.laysPu17 fn s base bits ev w hlim hv hev
open Go.RowKit in
theorem Tryd.toError_range (fn s : ByteArray) (base bits : Int) (ev : Value) (w : World) (hlim : s.size ≤ 281474976710656) (hv : w.cell? ⟨(Tryd.laysPu17_ren.g 1), 0, none⟩ = some ev) (hev : ev = .nilIface ∨ ∃ te pe, ev = .iface te pe) :
    Calls Tryd.prog 76 #[.string fn, .string s, .int .i64 base, .int .i64 bits, .iface 110 (.int .i64 1)] w fun e w' => ∃ N, e = .returned (.iface 112 (.pointer (some ⟨N, 0, none⟩))) ∧ w.heap.size ≤ N ∧ w'.heap[N]? = some (.cells #[.string fn, .string s, ev] (Tryd.laysPu17_ren.t 44) (0, 0)) ∧ Below w.heap.size w w' := AnyPu.strconv_toError_range Tryd.laysPu17 fn s base bits ev w hlim hv hev
end Go.Proofs

/-
  From the small semantics to a law's statement: what is read stays; the answer is true.
-/
set_option linter.unusedSimpArgs false
set_option linter.unusedVariables false
namespace W
open Go (World Value Addr IntKind Program TypeId FuncId Operand Act Oper Next Result Sem Ending Exit Code Func DataW MemPlace Calls trodAll_cons_mk)
open Go.ChangeShapes Go.RowKit Go.WideShapes Go.ChangeAt
section
variable {P : Program} {Hh : Type} {enc : TypeId × Value → Hh}
theorem sameAt_old {W W' : World} (hb : ∀ b, b < W.heap.size → W'.heap[b]? = W.heap[b]?) {p : MemPlace} (hp : p.block < W.heap.size) : W.sameAt W' p := by
  cases p with
  | cell b o => exact cell_of_heap (hb b hp) o
  | map b => exact hb b hp
theorem trodAll_stays (hl : Go.laidOutB P = true) {W W' : World} (hb : ∀ b, b < W.heap.size → W'.heap[b]? = W.heap[b]?) {sp : Nat → Bool} : ∀ {ts : List TypeId} {vs : List Value} {ds : List (DataW Hh)} {ps : List MemPlace}, (∀ t ∈ ts, P.readableRec t = true ∧ t < P.types.size) →
    DataW.TrodAll enc P W 0 (fun _ => true) true ts vs ds ps → (∀ p ∈ ps, p.block < W.heap.size) → (∀ p ∈ ps, sp p.block = true) → DataW.TrodAll enc P W' 0 sp true ts vs ds ps
  | [], vs, ds, ps, hr, h, hlt, hs => by
    obtain ⟨rfl, rfl, rfl⟩ := trodAll_nil h
    exact trodAll_mk0
  | t :: ts, vs, ds, ps, hr, h, hlt, hs => by
    obtain ⟨v, vs', d, ds', p, q, rfl, rfl, rfl, hd, hrest⟩ := trodAll_cons h
    refine trodAll_cons_mk (Go.WideElems.Trod_stays hl (hr t (by simp)).1 (hr t (by simp)).2 hd (fun x hx => sameAt_old hb (hlt x (by simp [hx]))) (fun x hx => hs x (by simp [hx])))
      (trodAll_stays hl hb (fun u hu => hr u (by simp [hu])) hrest (fun x hx => hlt x (by simp [hx])) (fun x hx => hs x (by simp [hx])))
theorem law_post {f : Func} {s : Go.ChangeSpec} {apart fresh handsOn again : Bool} {W W' : World} {args : Array Value} {ds gs : List (DataW Hh)} {before : List MemPlace} {tb : TypeId} (hvars : s.vars = [])
    (hW : DataW.Whole enc P f.params.toList s.vars apart W args.toList ds gs before) (hs : s.fn Hh ds = { results := [.lit (.bool true)], args := ds }) (hres : f.resultTypes = #[tb]) (htb : P.underlying tb = some .bool)
    (hl : Go.laidOutB P = true) (hread : ∀ t ∈ f.params.toList, P.readableRec t = true ∧ t < P.types.size)
    (hio : W'.os = W.os ∧ W'.output = W.output) (hb : ∀ b, b < W.heap.size → W'.heap[b]? = W.heap[b]?) :
    s.post enc P f apart fresh handsOn again W args (.bool true) W' := by
  have hlt : ∀ p ∈ before, p.block < W.heap.size := fun p hp => by simpa using hW.lt p hp
  have hW' := hW
  obtain ⟨p, q, hA, hV, rfl, hfz, hnd⟩ := hW
  rw [hvars] at hV
  obtain ⟨rfl, rfl⟩ := trodVars_none hV
  have hfn : s.fn Hh (ds ++ []) = { results := [.lit (.bool true)], args := ds } := by rw [List.append_nil]; exact hs
  have hargs : ∀ sp : Nat → Bool, (∀ x ∈ p ++ [], sp x.block = true) → DataW.TrodAll enc P W' 0 sp true f.params.toList args.toList ds p := fun sp hsp =>
    trodAll_stays hl hb hread hA (fun x hx => hlt x (by simp [hx])) (fun x hx => hsp x (by simp [hx]))
  have hk : W.keptBut W' (fun _ => False) := by
    refine ⟨hio.1, hio.2, fun i hi => ?_⟩
    rw [hb i hi]
    cases hq : W.heap[i]? with
    | none => rfl
    | some o => cases o <;> first | rfl | exact ⟨rfl, rfl, rfl, fun _ _ => rfl⟩ | exact .inr ⟨rfl, rfl⟩
  have hresT : ∀ (b : Nat) (sp : Nat → Bool) (hd : Bool), DataW.TrodAll enc P W' b sp hd f.resultTypes.toList ((Value.bool true).resultList f.resultTypes.size) [.lit (.bool true)] [] := fun b sp hd => by
    rw [hres]
    exact trodAll_cons_mk (shut_bool htb _) trodAll_mk0
  have hfz' : ∀ a : Addr, a.block < W.heap.size → W'.frozen? a = W.frozen? a := fun a ha => by simp only [World.frozen?, hb a.block ha]
  have hres2 : ∀ (b : Nat) (sp : Nat → Bool) (hd : Bool), DataW.TrodAll enc P W' b sp hd f.resultTypes.toList ((Value.bool true).resultList f.resultTypes.size) (s.fn Hh (ds ++ [])).results [] := fun b sp hd => by rw [hfn]; exact hresT b sp hd
  have hargs2 : ∀ sp : Nat → Bool, (∀ x ∈ p ++ [], sp x.block = true) → DataW.TrodAll enc P W' 0 sp true f.params.toList args.toList (s.fn Hh (ds ++ [])).args p := fun sp hsp => by rw [hfn]; exact hargs sp hsp
  have hvars2 : ∀ sp : Nat → Bool, DataW.TrodVars enc P W' sp s.vars (s.fn Hh (ds ++ [])).vars [] := fun sp => by rw [hfn, hvars]; rfl
  have hold : ∀ x ∈ p ++ [], (fun b => decide (b < W.heap.size)) x.block = true := fun x hx => by simpa using hlt x hx
  refine ⟨ds, [], p ++ [], [], p, [], hW', hres2 _ _ _, hargs2 _ hold, hvars2 _, Go.World.keptBut_mono (fun _ h => h.elim) hk, fun _ => ?_⟩
  refine ⟨ok_one hres rfl (okWide_bool_mk htb _), _, _, ([] ++ p) ++ [], ⟨[] ++ p, [], trodAll_append (hargs2 _ (fun _ _ => rfl)) (hres2 _ _ _), hvars2 _, rfl, ?_, ?_⟩, ?_⟩
  · intro b off hp
    rw [hfz' _ (hlt (.cell b off) (by simpa using hp))]
    exact hfz b off (by simpa using hp)
  · intro ha
    simpa using hnd ha
  · intro x hx _
    simpa using hx
end
end W

/-
  Arguments that were read are data.
-/
set_option linter.unusedSimpArgs false
set_option linter.unusedVariables false
namespace W
open Go (World Value Addr IntKind Program TypeId FuncId Operand Act Oper Next Result Sem Ending Exit Code Func DataW MemPlace Calls TypeDesc Lit)
mutual
def D.bulk : D → Nat
  | .s x => x.length + 1
  | .sl xs => D.bulks xs + 1
  | .agg cs => D.bulks cs + 1
  | _ => 1
def D.bulks : List D → Nat
  | [] => 0
  | x :: l => D.bulk x + D.bulks l
end
theorem bulks_append : ∀ (a b : List D), D.bulks (a ++ b) = D.bulks a + D.bulks b
  | [], b => by simp [D.bulks]
  | x :: a, b => by simp only [List.cons_append, D.bulks, bulks_append a b]; omega
def tiles (P : Program) : Nat → List Go.Field → Bool
  | _, [] => true
  | off, f :: l => f.offset == off && tiles P (off + P.cellsOf f.type) l
def sumCells (P : Program) : List Go.Field → Nat
  | [] => 0
  | f :: l => P.cellsOf f.type + sumCells P l
def cover1 (P : Program) (ts : List TypeId) (t : TypeId) : Bool :=
  match P.underlying t with
  | some .bool | some (.int _) | some .string => true
  | some (.slice e) => ts.contains e && Nat.blt 0 (P.cellsOf e)
  | some (.struct fs) => fs.toList.all (fun f => ts.contains f.type) && tiles P 0 fs.toList && Nat.beq (P.cellsOf t) (sumCells P fs.toList)
  | some (.array n e) => ts.contains e && Nat.beq (P.cellsOf t) (n * P.cellsOf e)
  | _ => false
def covers (P : Program) (ts : List TypeId) : Bool := ts.all (cover1 P ts)
def aggT (P : Program) (t : TypeId) : Bool :=
  match P.underlying t with
  | some (.struct _) | some (.array _ _) => true
  | _ => false
def elD : Bool → List D → D
  | true, xs => .agg xs
  | false, [x] => x
  | false, _ => .np
def Ty (P : Program) : Nat → TypeId → List D → Prop
  | 0, _, _ => False
  | n + 1, t, xs => match P.underlying t with
    | some .bool => ∃ b, xs = [.b b]
    | some (.int k) => ∃ z, xs = [.i k z] ∧ (Lit.int k z).wf = true
    | some .string => ∃ s, xs = [.s s] ∧ s.length ≤ Go.maxLen ∧ ∀ c ∈ s, c < 256
    | some (.slice e) => xs = [.nil] ∨ ∃ yss : List (List D), xs = [.sl (yss.map (elD (aggT P e)))] ∧ yss.length ≤ Go.maxLen ∧ ∀ q ∈ yss, Ty P n e q
    | some (.struct fs) => ∃ yss : List (List D), xs = yss.flatten ∧ yss.length = fs.toList.length ∧ ∀ (i : Nat) (f : Go.Field) (q : List D), fs.toList[i]? = some f → yss[i]? = some q → Ty P n f.type q
    | some (.array m e) => ∃ yss : List (List D), xs = yss.flatten ∧ yss.length = m ∧ ∀ q ∈ yss, Ty P n e q
    | _ => False
def Arg (P : Program) (t : TypeId) (x : D) : Prop := ∃ n xs, Ty P n t xs ∧ x = elD (aggT P t) xs
structure Bulk {Hh : Type} (B : DataW Hh → Nat) (BA : List (DataW Hh) → Nat) : Prop where
  str : ∀ bytes, B (.lit (.string bytes)) = bytes.length + 1
  lit : ∀ l, 1 ≤ B (.lit l)
  nil : B .nil = 1
  sl : ∀ es sp, B (.slice es sp) = BA es + BA sp + 1
  agg : ∀ ps, B (.agg ps) = BA ps + 1
  n : BA [] = 0
  c : ∀ d r, BA (d :: r) = B d + BA r
def g0 (W : World) : Gh := { n := 0, φ := fun _ => 0, own := fun _ => none, pub := fun b => match W.heap[b]? with | some (.cells c _ _) => c.size | _ => 0 }
theorem glOk_nil {M : Maps} {g : Gh} {w : World} (h : M.gl = []) (h2 : M.gi = []) : GlOk M g w := ⟨(fun n x hn => by rw [h] at hn; cases hn), (fun n hn => by rw [h2] at hn; cases hn)⟩
theorem g0_relH (M : Maps) (W : World) (hgl : GlOk M (g0 W) W) : RelH M (g0 W) W [] := ⟨rfl, fun id o h => by simp at h, fun b hb => ⟨rfl, by
  show (match W.heap[b]? with | some (.cells c _ _) => c.size | _ => 0) = 0
  rw [Array.getElem?_eq_none hb]⟩, hgl⟩
theorem g0_evo {W W' : World} {g' : Gh} (h : Evo (g0 W) W g' W') : ∀ b, b < W.heap.size → W'.heap[b]? = W.heap[b]? := fun b hb => (h.keep b hb (.inl rfl)).2.1
theorem pub_of_cell {W : World} {b o : Nat} {v : Value} (h : W.cell? ⟨b, o, none⟩ = some v) : o < (g0 W).pub b := by
  simp only [World.cell?] at h
  show o < (match W.heap[b]? with | some (.cells c _ _) => c.size | _ => 0)
  split at h
  · rename_i c e f hq
    rw [hq]
    simp at h
    exact (Array.getElem?_eq_some_iff.1 h).1
  · cases h
theorem spot_of_cell {W : World} {a : Addr} {v : Value} (h : W.cell? a = some v) : a.spot = none := by
  simp only [World.cell?] at h
  split at h
  · cases hs : a.spot with
    | none => rfl
    | some s => simp [hs] at h
  · cases h
section
variable {P : Program} {Hh : Type} {enc : TypeId × Value → Hh} {W : World}
theorem RepDL.split {pub : Nat → Nat} {w : World} : ∀ {a : List (List D)} {b : List (List Value)}, a.length = b.length → (∀ (i : Nat) (q : List D) (r : List Value), a[i]? = some q → b[i]? = some r → RepDL pub w q r) → RepDL pub w a.flatten b.flatten
  | [], [], _, _ => .nil
  | q :: a, r :: b, hl, h => by
    simp only [List.flatten_cons]
    exact (h 0 q r rfl rfl).append (RepDL.split (by simpa using hl) (fun i q' r' hq hr => h (i + 1) q' r' (by simpa using hq) (by simpa using hr)))
  | [], _ :: _, hl, _ => by simp at hl
  | _ :: _, [], hl, _ => by simp at hl
theorem tiles_flatten (cs : List Value) : ∀ (fs : List Go.Field) (off : Nat), tiles P off fs = true → (fs.map fun f => (cs.drop f.offset).take (P.cellsOf f.type)).flatten = (cs.drop off).take (sumCells P fs)
  | [], off, _ => by simp [sumCells]
  | f :: fs, off, h => by
    simp only [tiles, Bool.and_eq_true, beq_iff_eq] at h
    simp only [List.map_cons, List.flatten_cons, sumCells, tiles_flatten cs fs _ h.2, h.1]
    rw [List.take_add, List.drop_drop]
theorem array_flatten (cs : List Value) (sz : Nat) : ∀ n, ((List.range n).map fun i => (cs.drop (i * sz)).take sz).flatten = cs.take (n * sz)
  | 0 => by simp
  | n + 1 => by
    rw [List.range_succ, List.map_append, List.flatten_append, array_flatten cs sz n, Nat.succ_mul, List.take_add]
    simp
theorem ty_cells {n : Nat} {t : TypeId} {xs : List D} (h : Ty P n t xs) : (elD (aggT P t) xs).cells = xs := by
  cases n with
  | zero => exact h.elim
  | succ n =>
    unfold Ty at h
    unfold aggT
    split at h
    · rename_i hu; rw [hu]; obtain ⟨b, rfl⟩ := h; rfl
    · rename_i k hu; rw [hu]; obtain ⟨b, rfl, _⟩ := h; rfl
    · rename_i hu; rw [hu]; obtain ⟨b, rfl, _⟩ := h; rfl
    · rename_i e hu; rw [hu]
      rcases h with rfl | ⟨yss, rfl, _⟩ <;> rfl
    · rename_i fs hu; rw [hu]; rfl
    · rename_i m e hu; rw [hu]; rfl
    · exact h.elim
theorem ones_append {a b : List D} (h1 : D.ones a = true) (h2 : D.ones b = true) : D.ones (a ++ b) = true := by
  induction a with
  | nil => exact h2
  | cons q a ih => simp only [List.cons_append, D.ones, Bool.and_eq_true] at h1 ⊢; exact ⟨h1.1, ih h1.2⟩
theorem ones_flatten : ∀ {l : List (List D)}, (∀ q ∈ l, D.ones q = true) → D.ones l.flatten = true
  | [], _ => rfl
  | q :: l, h => ones_append (h q (by simp)) (ones_flatten fun r hr => h r (by simp [hr]))
theorem ty_ones : ∀ {n : Nat} {t : TypeId} {xs : List D}, Ty P n t xs → D.ones xs = true
  | 0, _, _, h => h.elim
  | n + 1, t, xs, h => by
    unfold Ty at h
    split at h
    · obtain ⟨b, rfl⟩ := h; rfl
    · obtain ⟨b, rfl, _⟩ := h; rfl
    · obtain ⟨b, rfl, _⟩ := h; rfl
    · rcases h with rfl | ⟨yss, rfl, _⟩ <;> rfl
    · obtain ⟨yss, rfl, hl, h⟩ := h
      refine ones_flatten fun q hq => ?_
      obtain ⟨i, hi⟩ := List.getElem?_of_mem hq
      have hlt := (List.getElem?_eq_some_iff.1 hi).1
      rename_i fs hu
      exact ty_ones (h i (fs.toList[i]'(by omega)) q (by simp [hl ▸ hlt]) hi)
    · obtain ⟨yss, rfl, hl, h⟩ := h
      exact ones_flatten fun q hq => ty_ones (h q hq)
    · exact h.elim
end
end W

/-
  Arguments that were read are data: the reading itself.
-/
set_option linter.unusedSimpArgs false
set_option linter.unusedVariables false
namespace W
open Go (World Value Addr IntKind Program TypeId FuncId Operand Act Oper Next Result Sem Ending Exit Code Func DataW MemPlace Calls TypeDesc Lit)
theorem exists_list {α : Type} {R : Nat → α → Prop} : ∀ (n : Nat), (∀ i, i < n → ∃ a, R i a) → ∃ l : List α, l.length = n ∧ ∀ (i : Nat) (a : α), l[i]? = some a → R i a
  | 0, _ => ⟨[], rfl, fun i a h => by simp at h⟩
  | n + 1, h => by
    obtain ⟨l, h1, h2⟩ := exists_list n (fun i hi => h i (by omega))
    obtain ⟨a, ha⟩ := h n (by omega)
    refine ⟨l ++ [a], by simp [h1], fun i b hb => ?_⟩
    rw [List.getElem?_append] at hb
    split at hb
    · exact h2 i b hb
    · rename_i hge
      have hi : i - l.length = 0 := by
        rcases Nat.eq_zero_or_pos (i - l.length) with h0 | h0
        · exact h0
        · rw [List.getElem?_eq_none (by simp; omega)] at hb; cases hb
      rw [hi] at hb
      simp only [List.getElem?_cons_zero, Option.some.injEq] at hb
      subst hb
      rwa [show i = n by omega]
theorem flatten_get {α : Type} {c : Nat} : ∀ (l : List (List α)), (∀ q ∈ l, q.length = c) → ∀ (j : Nat) (v : α), l.flatten[j]? = some v → ∃ i r q, j = i * c + r ∧ l[i]? = some q ∧ q[r]? = some v
  | [], _, j, v, h => by simp at h
  | q :: l, hc, j, v, h => by
    have hq := hc q (by simp)
    rw [List.flatten_cons, List.getElem?_append] at h
    split at h
    · exact ⟨0, j, q, by simp, rfl, h⟩
    · rename_i hge
      obtain ⟨i, r, q', h1, h2, h3⟩ := flatten_get l (fun x hx => hc x (by simp [hx])) _ v h
      exact ⟨i + 1, r, q', by rw [Nat.succ_mul]; omega, by simpa using h2, h3⟩
theorem flatten_length {α : Type} {c : Nat} : ∀ (l : List (List α)), (∀ q ∈ l, q.length = c) → l.flatten.length = l.length * c
  | [], _ => by simp
  | q :: l, hc => by
    rw [List.flatten_cons, List.length_append, hc q (by simp), flatten_length l (fun x hx => hc x (by simp [hx])), List.length_cons, Nat.succ_mul]; omega
section
variable {P : Program} {Hh : Type} {enc : TypeId × Value → Hh} {W : World}
theorem bulk_el {n : Nat} {t : TypeId} {q : List D} (h : Ty P n t q) {b : Nat} (hb : D.bulks q + (if aggT P t then 1 else 0) ≤ b) : D.bulk (elD (aggT P t) q) ≤ b := by
  cases ha : aggT P t with
  | true => rw [ha] at hb; simpa [elD, D.bulk] using hb
  | false =>
    rw [ha] at hb
    have h1 := ty_cells h
    rw [ha] at h1
    match q, h1, hb with
    | [x], _, hb => simpa [elD, D.bulks] using hb
    | [], h1, _ => simp [elD, D.cells] at h1
    | x :: y :: l, h1, _ => simp [elD, D.cells] at h1
theorem bulks_le {B : DataW Hh → Nat} {BA : List (DataW Hh) → Nat} (hB : Bulk B BA) : ∀ {ys : List D} {ds : List (DataW Hh)}, ys.length = ds.length → (∀ (i : Nat) (y : D) (d : DataW Hh), ys[i]? = some y → ds[i]? = some d → D.bulk y ≤ B d) → D.bulks ys ≤ BA ds
  | [], [], _, _ => by simp [D.bulks]
  | y :: ys, d :: ds, hl, h => by
    rw [hB.c, D.bulks]
    have h1 := h 0 y d rfl rfl
    have h2 := bulks_le hB (ys := ys) (ds := ds) (by simpa using hl) (fun i y d hy hd => h (i + 1) y d (by simpa using hy) (by simpa using hd))
    omega
  | [], _ :: _, hl, _ => by simp at hl
  | _ :: _, [], hl, _ => by simp at hl
theorem bulks_flat_le {B : DataW Hh → Nat} {BA : List (DataW Hh) → Nat} (hB : Bulk B BA) : ∀ {ys : List (List D)} {ds : List (DataW Hh)}, ys.length = ds.length → (∀ (i : Nat) (y : List D) (d : DataW Hh), ys[i]? = some y → ds[i]? = some d → D.bulks y ≤ B d) → D.bulks ys.flatten ≤ BA ds
  | [], [], _, _ => by simp [D.bulks]
  | y :: ys, d :: ds, hl, h => by
    rw [hB.c, List.flatten_cons, bulks_append]
    have h1 := h 0 y d rfl rfl
    have h2 := bulks_flat_le hB (ys := ys) (ds := ds) (by simpa using hl) (fun i y d hy hd => h (i + 1) y d (by simpa using hy) (by simpa using hd))
    omega
  | [], _ :: _, hl, _ => by simp at hl
  | _ :: _, [], hl, _ => by simp at hl
theorem cells_spec {a : Addr} {n : Nat} {cs : List Value} (h : W.cells? 0 a n = some cs) : cs.length = n ∧ ∀ (i : Nat) (v : Value), cs[i]? = some v → W.cell? (a.add i) = some v := by
  unfold World.cells? at h
  simp only [Nat.zero_le, if_true] at h
  have hl := Go.mapM_some_length h
  refine ⟨by simpa using hl, fun i v hv => ?_⟩
  have hi : i < n := by
    have := (List.getElem?_eq_some_iff.1 hv).1
    rw [hl] at this; simpa using this
  have := Go.mapM_some_get h i i (by simp [hi])
  rw [this, hv]
theorem bulks_sl (ys : List D) : D.bulks [.sl ys] = D.bulks ys + 1 := by simp [D.bulks, D.bulk]
theorem trod_rep {ts : List TypeId} (hts : covers P ts = true) {B : DataW Hh → Nat} {BA : List (DataW Hh) → Nat} (hB : Bulk B BA) : ∀ (n : Nat) (t : TypeId) (cs : List Value) (x : DataW Hh × List MemPlace), t ∈ ts →
    DataW.trod enc P W 0 (fun _ => true) true n t cs = some x → ∃ xs, Ty P n t xs ∧ RepDL (g0 W).pub W xs cs ∧ D.bulks xs + (if aggT P t then 1 else 0) ≤ B x.1
  | 0, t, cs, x, _, h => by simp [DataW.trod] at h
  | n + 1, t, cs, x, ht, h => by
    have hcov : cover1 P ts t = true := by
      simp only [covers, List.all_eq_true] at hts
      exact hts t ht
    unfold cover1 at hcov
    unfold Ty aggT
    split at hcov
    · -- bool
      rename_i hu
      obtain ⟨b, rfl, rfl⟩ := DataW.trod_bool hu h
      rw [hu]
      exact ⟨[.b b], ⟨b, rfl⟩, .cons _ _ _ _ (.b b) .nil, by have := hB.lit (.bool b); simpa [D.bulks, D.bulk] using this⟩
    · rename_i k hu
      obtain ⟨z, rfl, rfl, hw⟩ := DataW.trod_int hu h
      rw [hu]
      exact ⟨[.i k z], ⟨z, rfl, hw⟩, .cons _ _ _ _ (.i k z) .nil, by have := hB.lit (.int k z); simpa [D.bulks, D.bulk] using this⟩
    · rename_i hu
      obtain ⟨z, rfl, rfl, hm⟩ := DataW.trod_string hu h
      rw [hu]
      have hl : (z.data.toList.map (·.toNat)).length = z.size := by simp
      refine ⟨[.s (z.data.toList.map (·.toNat))], ⟨_, rfl, by rw [hl]; exact hm, fun c hc => ?_⟩, .cons _ _ _ _ (.s _ z rfl) .nil, ?_⟩
      · obtain ⟨b, _, rfl⟩ := List.mem_map.1 hc
        exact b.toNat_lt
      · simp only [D.bulks, D.bulk, hB.str]
        simp
    · -- slice
      rename_i e hu
      simp only [Bool.and_eq_true, List.contains_iff_mem, Nat.blt_eq] at hcov
      obtain ⟨he, hpos⟩ := hcov
      rw [hu]
      rcases DataW.trod_slice hu h with ⟨rfl, rfl⟩ | ⟨a, len, cap, elems, rest, m, hm, rfl, rfl, hb, hlc, hcap, hlen, hel, _, _⟩
      · exact ⟨[.nil], .inl rfl, .cons _ _ _ _ .nil .nil, by rw [hB.nil]; simp [D.bulks, D.bulk]⟩
      · cases hm
        -- each element
        obtain ⟨l, hl1, hl2⟩ := exists_list (R := fun i (p : List D × List Value) => ∃ y, elems[i]? = some y ∧ W.cells? 0 (a.add (i * P.cellsOf e)) (P.cellsOf e) = some p.2 ∧ Ty P n e p.1 ∧ RepDL (g0 W).pub W p.1 p.2 ∧ D.bulks p.1 + (if aggT P e then 1 else 0) ≤ B y.1) len (fun i hi => by
          have h1 := hel i hi
          rw [List.getElem?_eq_getElem (by omega)] at h1
          obtain ⟨cs', h2, h3⟩ := Option.bind_eq_some_iff.1 h1
          obtain ⟨xs, h4, h5, h6⟩ := trod_rep hts hB n e cs' _ he h3
          exact ⟨(xs, cs'), _, List.getElem?_eq_getElem (by omega), h2, h4, h5, h6⟩)
        have htys : ∀ q ∈ l.map (·.1), Ty P n e q := fun q hq => by
          obtain ⟨p, hp, rfl⟩ := List.mem_map.1 hq
          obtain ⟨i, hi⟩ := List.getElem?_of_mem hp
          obtain ⟨y, _, _, h4, _⟩ := hl2 i p hi
          exact h4
        have hbulk : D.bulks ((l.map (·.1)).map (elD (aggT P e))) ≤ BA (elems.map (·.1)) := by
          refine bulks_le hB (by simp [hl1, hlen]) (fun i y d hy hd => ?_)
          simp only [List.getElem?_map, Option.map_map, Option.map_eq_some_iff] at hy hd
          obtain ⟨p, hp, rfl⟩ := hy
          obtain ⟨z, hz, rfl⟩ := hd
          obtain ⟨y, h1, _, h4, _, h6⟩ := hl2 i p hp
          rw [hz] at h1
          cases h1
          exact bulk_el h4 h6
        refine ⟨[.sl ((l.map (·.1)).map (elD (aggT P e)))], .inr ⟨l.map (·.1), rfl, by simp only [List.length_map, hl1]; omega, htys⟩, .cons _ _ _ _ ?_ .nil, ?_⟩
        · cases hle : l with
          | nil =>
            rw [hle] at hl1
            simp at hl1
            subst hl1
            exact .sl0 a cap
          | cons p0 l' =>
            rw [← hle]
            have hlpos : 0 < len := by rw [← hl1, hle]; simp
            have hcl : ∀ p ∈ l, p.2.length = P.cellsOf e := fun p hp => by
              obtain ⟨i, hi⟩ := List.getElem?_of_mem hp
              obtain ⟨y, _, h2, _⟩ := hl2 i p hi
              exact (cells_spec h2).1
            have hcell : ∀ i p, l[i]? = some p → ∀ r v, p.2[r]? = some v → W.cell? ((a.add (i * P.cellsOf e)).add r) = some v := fun i p hi r v hv => by
              obtain ⟨y, _, h2, _⟩ := hl2 i p hi
              exact (cells_spec h2).2 r v hv
            have hspot : a.spot = none := by
              have h0 : l[0]? = some p0 := by rw [hle]; rfl
              have hp0 := hcl p0 (by rw [hle]; simp)
              have hlt : 0 < p0.2.length := by omega
              have := spot_of_cell (hcell 0 p0 h0 0 p0.2[0] (by simp [hlt]))
              rw [Nat.zero_mul] at this
              unfold Addr.add at this
              simpa using this
            obtain ⟨b, off, sp⟩ := a
            simp only at hspot
            subst hspot
            have hvlen : (l.map (·.2)).flatten.length = len * P.cellsOf e := by
              rw [flatten_length _ (fun q hq => by obtain ⟨p, hp, rfl⟩ := List.mem_map.1 hq; exact hcl p hp)]; simp [hl1]
            have hflat : ((l.map (·.1)).map (elD (aggT P e))).flatMap D.cells = (l.map (·.1)).flatten := by
              rw [List.flatMap_map, List.flatMap_def]
              congr 1
              rw [List.map_congr_left (g := id)]
              · simp
              · intro q hq; exact ty_cells (htys q hq)
            have hrep : RepDL (g0 W).pub W (((l.map (·.1)).map (elD (aggT P e))).flatMap D.cells) (l.map (·.2)).flatten := by
              rw [hflat]
              refine RepDL.split (by simp) (fun i q r hq hr => ?_)
              simp only [List.getElem?_map, Option.map_eq_some_iff] at hq hr
              obtain ⟨p, hp, rfl⟩ := hq
              obtain ⟨p', hp', rfl⟩ := hr
              rw [hp] at hp'
              cases hp'
              obtain ⟨y, _, _, _, h5, _⟩ := hl2 i p hp
              exact h5
            have hcs : ∀ j v, (l.map (·.2)).flatten[j]? = some v → W.cell? ⟨b, off + j, none⟩ = some v := fun j v hj => by
              obtain ⟨i, r, q, h1, h2, h3⟩ := flatten_get _ (fun q hq => by obtain ⟨p, hp, rfl⟩ := List.mem_map.1 hq; exact hcl p hp) j v hj
              simp only [List.getElem?_map, Option.map_eq_some_iff] at h2
              obtain ⟨p, hp, rfl⟩ := h2
              have := hcell i p hp r v h3
              rw [add_none, add_none] at this
              rw [h1, ← Nat.add_assoc]; exact this
            have hlenD : ((l.map (·.1)).map (elD (aggT P e))).length = len := by simp [hl1]
            have hsl := RepD.sl (pub := (g0 W).pub) (w := W) ((l.map (·.1)).map (elD (aggT P e))) b off cap (P.cellsOf e) (l.map (·.2)).flatten (by rw [hle]; simp) (fun x hx => ?_) hrep hcs ?_ (by rw [hlenD]; exact hlc) ?_
            · rw [hlenD] at hsl; exact hsl
            · obtain ⟨q, hq, rfl⟩ := List.mem_map.1 hx
              rw [ty_cells (htys q hq)]
              obtain ⟨p, hp, rfl⟩ := List.mem_map.1 hq
              obtain ⟨i, hi⟩ := List.getElem?_of_mem hp
              obtain ⟨y, _, _, _, h5, _⟩ := hl2 i p hi
              rw [h5.length]; exact hcl p hp
            · have hp : 0 < len * P.cellsOf e := Nat.mul_pos hlpos hpos
              have hlt : (l.map (·.2)).flatten.length - 1 < (l.map (·.2)).flatten.length := by rw [hvlen]; omega
              have := pub_of_cell (hcs _ _ (List.getElem?_eq_getElem hlt))
              rw [hvlen] at this ⊢
              omega
            · refine hrep.ones ?_
              rw [hflat]
              exact ones_flatten fun q hq => ty_ones (htys q hq)
        · rw [bulks_sl, hB.sl]
          simp only [Bool.false_eq_true, if_false]
          omega
    · -- struct
      rename_i fs hu
      simp only [Bool.and_eq_true, List.all_eq_true, List.contains_iff_mem, Nat.beq_eq] at hcov
      obtain ⟨⟨hf, htile⟩, hsum⟩ := hcov
      obtain ⟨ys, m, hm, rfl, hlc, hlen, hel⟩ := DataW.trod_struct hu h
      cases hm
      rw [hu]
      obtain ⟨l, hl1, hl2⟩ := exists_list (R := fun i (p : List D) => ∃ f y, fs[i]? = some f ∧ ys[i]? = some y ∧ Ty P n f.type p ∧ RepDL (g0 W).pub W p ((cs.drop f.offset).take (P.cellsOf f.type)) ∧ D.bulks p + (if aggT P f.type then 1 else 0) ≤ B y.1) fs.size (fun i hi => by
        have hfi : fs[i]? = some fs[i] := by simp [hi]
        have h1 := hel i fs[i] hfi
        rw [List.getElem?_eq_getElem (by omega)] at h1
        obtain ⟨xs, h4, h5, h6⟩ := trod_rep hts hB n _ _ _ (hf fs[i] (by simp)) h1
        exact ⟨xs, fs[i], _, hfi, List.getElem?_eq_getElem (by omega), h4, h5, h6⟩)
      refine ⟨l.flatten, ⟨l, rfl, by simp [hl1], fun i f q hfi hq => ?_⟩, ?_, ?_⟩
      · obtain ⟨f', y, h1, h2, h3, _⟩ := hl2 i q hq
        have : fs[i]? = some f := by simpa using hfi
        rw [h1] at this; cases this
        exact h3
      · have hall : cs = (fs.toList.map fun f => (cs.drop f.offset).take (P.cellsOf f.type)).flatten := by
          rw [tiles_flatten cs _ 0 htile, ← hsum, ← hlc]; simp
        rw [hall]
        refine RepDL.split (by simp [hl1]) (fun i q r hq hr => ?_)
        simp only [List.getElem?_map, Option.map_eq_some_iff] at hr
        obtain ⟨f, hfi, rfl⟩ := hr
        obtain ⟨f', y, h1, h2, h3, h4, _⟩ := hl2 i q hq
        have : fs[i]? = some f := by simpa using hfi
        rw [h1] at this; cases this
        exact h4
      · simp only [hB.agg, if_true]
        have := bulks_flat_le hB (ys := l) (ds := ys.map (·.1)) (by simp [hl1, hlen]) (fun i q d hq hd => by
          simp only [List.getElem?_map, Option.map_eq_some_iff] at hd
          obtain ⟨z, hz, rfl⟩ := hd
          obtain ⟨f', y, h1, h2, h3, h4, h5⟩ := hl2 i q hq
          rw [hz] at h2; cases h2
          omega)
        omega
    · -- array
      rename_i k e hu
      simp only [Bool.and_eq_true, List.contains_iff_mem, Nat.beq_eq] at hcov
      obtain ⟨he, hsum⟩ := hcov
      obtain ⟨ys, m, hm, rfl, hlc, hlen, hel⟩ := DataW.trod_array hu h
      cases hm
      rw [hu]
      obtain ⟨l, hl1, hl2⟩ := exists_list (R := fun i (p : List D) => ∃ y, ys[i]? = some y ∧ Ty P n e p ∧ RepDL (g0 W).pub W p ((cs.drop (i * P.cellsOf e)).take (P.cellsOf e)) ∧ D.bulks p + (if aggT P e then 1 else 0) ≤ B y.1) k (fun i hi => by
        have h1 := hel i hi
        rw [List.getElem?_eq_getElem (by omega)] at h1
        obtain ⟨xs, h4, h5, h6⟩ := trod_rep hts hB n _ _ _ he h1
        exact ⟨xs, _, List.getElem?_eq_getElem (by omega), h4, h5, h6⟩)
      refine ⟨l.flatten, ⟨l, rfl, hl1, fun q hq => ?_⟩, ?_, ?_⟩
      · obtain ⟨i, hi⟩ := List.getElem?_of_mem hq
        obtain ⟨y, h2, h3, _⟩ := hl2 i q hi
        exact h3
      · have hall : cs = ((List.range k).map fun i => (cs.drop (i * P.cellsOf e)).take (P.cellsOf e)).flatten := by
          rw [array_flatten, ← hsum, ← hlc]; simp
        rw [hall]
        refine RepDL.split (by simp [hl1]) (fun i q r hq hr => ?_)
        simp only [List.getElem?_map, Option.map_eq_some_iff] at hr
        obtain ⟨i', hi', rfl⟩ := hr
        have hik : i < k := by rw [← hl1]; exact (List.getElem?_eq_some_iff.1 hq).1
        rw [List.getElem?_range hik] at hi'
        cases hi'
        obtain ⟨y, h2, h3, h4, _⟩ := hl2 i q hq
        exact h4
      · simp only [hB.agg, if_true]
        have := bulks_flat_le hB (ys := l) (ds := ys.map (·.1)) (by simp [hl1, hlen]) (fun i q d hq hd => by
          simp only [List.getElem?_map, Option.map_eq_some_iff] at hd
          obtain ⟨z, hz, rfl⟩ := hd
          obtain ⟨y, h2, h3, h4, h5⟩ := hl2 i q hq
          rw [hz] at h2; cases h2
          omega)
        omega
    · cases hcov
end
end W

/-
  A law's contract from runs of the small semantics, one for every way that its arguments may read.
-/
set_option linter.unusedSimpArgs false
set_option linter.unusedVariables false
namespace W
open Go (World Value Addr IntKind Program TypeId FuncId Operand Act Oper Next Result Sem Ending Exit Code Func DataW MemPlace Calls TypeDesc Lit)
open Go.ChangeShapes Go.RowKit
section
variable {P : Program} {Hh : Type} {enc : TypeId × Value → Hh} {W : World} {M : Maps}
theorem form_ok {r : Go.Reach} {b : Nat} {t : TypeId} {v : Value} (hv : Value.okWide P W r b t v) : (aggT P t = true → ∃ cs, v = .agg cs) ∧
    (aggT P t = false → (∃ d, P.underlying t = some d ∧ (d = .bool ∨ (∃ k, d = .int k) ∨ d = .string ∨ ∃ e, d = .slice e)) → v.cells.toList = [v]) := by
  unfold Value.okWide at hv
  unfold aggT
  split at hv
  · rename_i hu
    rw [hu]
    obtain ⟨cs, rfl, _⟩ := hv
    exact ⟨fun _ => ⟨cs, rfl⟩, fun h => by cases h⟩
  · rename_i hu
    rw [hu]
    obtain ⟨cs, rfl, _⟩ := hv
    exact ⟨fun _ => ⟨cs, rfl⟩, fun h => by cases h⟩
  · rename_i h1 h2
    refine ⟨fun h => ?_, fun _ ⟨d, hu, hd⟩ => ?_⟩
    · exfalso
      split at h
      · rename_i hu; exact h1 _ hu
      · rename_i hu; exact h2 _ _ hu
      · cases h
    · cases v with
      | agg cs => rcases hd with rfl | ⟨k, rfl⟩ | rfl | ⟨e, rfl⟩ <;> simp [Go.Cell.okWide, Go.Cell.ok, hu] at hv
      | _ => rfl
theorem arg_rep {ts : List TypeId} (hts : covers P ts = true) {B : DataW Hh → Nat} {BA : List (DataW Hh) → Nat} (hB : Bulk B BA) {r : Go.Reach} {b : Nat} {t : TypeId} {v : Value} {d : DataW Hh} {ps : List MemPlace} (ht : t ∈ ts)
    (hv : Value.okWide P W r b t v) (h : DataW.Trod enc P W 0 (fun _ => true) true t v d ps) : ∃ x, Arg P t x ∧ RepS M (g0 W) W (.d x) v ∧ D.bulk x ≤ B d := by
  obtain ⟨n, hn⟩ := h
  obtain ⟨xs, h1, h2, h3⟩ := trod_rep hts hB n t _ _ ht hn
  refine ⟨elD (aggT P t) xs, ⟨n, xs, h1, rfl⟩, ?_, bulk_el h1 h3⟩
  obtain ⟨f1, f2⟩ := form_ok hv
  cases ha : aggT P t with
  | true =>
    obtain ⟨cs, rfl⟩ := f1 ha
    exact .d _ _ (.agg xs cs h2)
  | false =>
    have hcov : cover1 P ts t = true := by
      simp only [covers, List.all_eq_true] at hts
      exact hts t ht
    have hc := f2 ha (by
      unfold cover1 at hcov
      split at hcov
      · rename_i hu; exact ⟨_, hu, .inl rfl⟩
      · rename_i hu; exact ⟨_, hu, .inr (.inl ⟨_, rfl⟩)⟩
      · rename_i hu; exact ⟨_, hu, .inr (.inr (.inl rfl))⟩
      · rename_i hu; exact ⟨_, hu, .inr (.inr (.inr ⟨_, rfl⟩))⟩
      · rename_i hu; simp [aggT, hu] at ha
      · rename_i hu; simp [aggT, hu] at ha
      · cases hcov)
    rw [hc] at h2
    cases h2 with
    | cons x _ l _ hx hl =>
      cases hl
      exact .d _ _ hx
theorem args_rep {ts : List TypeId} (hts : covers P ts = true) {B : DataW Hh → Nat} {BA : List (DataW Hh) → Nat} (hB : Bulk B BA) {r : Go.Reach} {b : Nat} : ∀ {tys : List TypeId} {vs : List Value} {ds : List (DataW Hh)} {ps : List MemPlace} (j : Nat),
    (∀ t ∈ tys, t ∈ ts) → (∀ (i : Nat) t v, tys[i]? = some t → vs[i]? = some v → Value.okWide P W r b t v) → DataW.TrodAll enc P W 0 (fun _ => true) true tys vs ds ps →
    ∃ xs : List D, All2 (Arg P) tys xs ∧ ArgsRep M (g0 W) W j (xs.map .d) vs ∧ D.bulks xs ≤ BA ds
  | [], vs, ds, ps, j, _, _, h => by
    obtain ⟨rfl, rfl, rfl⟩ := trodAll_nil h
    exact ⟨[], .nil, .nil j, by simp [D.bulks]⟩
  | t :: tys, vs, ds, ps, j, ht, hv, h => by
    obtain ⟨v, vs', d, ds', p, q, rfl, rfl, rfl, hd, hrest⟩ := trodAll_cons h
    obtain ⟨x, h1, h2, h3⟩ := arg_rep (M := M) hts hB (ht t (by simp)) (hv 0 t v rfl rfl) hd
    obtain ⟨xs, h4, h5, h6⟩ := args_rep hts hB (j + 1) (fun u hu => ht u (by simp [hu])) (fun i u w' hu hw => hv (i + 1) u w' (by simpa using hu) (by simpa using hw)) hrest
    refine ⟨x :: xs, .cons h1 h4, .cons (.s h2) h5, ?_⟩
    rw [hB.c, D.bulks]
    omega
theorem law_contract {f : Func} {fid : FuncId} {s : Go.ChangeSpec} {apart fresh handsOn again : Bool} {args : Array Value} {ds gs : List (DataW Hh)} {before : List MemPlace} {tb : TypeId} {ts : List TypeId} {pg : Pg} {i : Nat} {r : Go.Reach} {b : Nat}
    (hgl : GlOk M (g0 W) W) (hm : P.follows .mixedOrders = true) (hT : Tab P M pg) (hx : CallSim P M pg.ext) (hxlo : CallLo pg.ext) (hlook : look M.fm fid = some i) (hext : pg.fn i ≠ none)
    (hts : covers P ts = true) (hpar : ∀ t ∈ f.params.toList, t ∈ ts) {B : DataW Hh → Nat} {BA : List (DataW Hh) → Nat} (hB : Bulk B BA)
    (hval : ∀ (j : Nat) t v, f.params[j]? = some t → args[j]? = some v → Value.okWide P W r b t v)
    (hvars : s.vars = []) (hW : DataW.Whole enc P f.params.toList s.vars apart W args.toList ds gs before) (hs : s.fn Hh ds = { results := [.lit (.bool true)], args := ds }) (hres : f.resultTypes = #[tb]) (htb : P.underlying tb = some .bool)
    (hl : Go.laidOutB P = true) (hread : ∀ t ∈ f.params.toList, P.readableRec t = true ∧ t < P.types.size)
    (run : ∀ xs : List D, All2 (Arg P) f.params.toList xs → D.bulks xs ≤ BA ds → ∃ n r, callN pg n i (xs.map .d) [] = some r ∧ r.pan = false ∧ r.v = .d (.b true)) :
    Calls P fid args W fun e W' => ∃ v, e = .returned v ∧ s.post enc P f apart fresh handsOn again W args v W' := by
  have hW' := hW
  obtain ⟨p, q, hA, hV, rfl, hfz, hnd⟩ := hW
  obtain ⟨xs, h1, h2, h3⟩ := args_rep (M := M) hts hB 0 hpar (fun j t v ht hv => hval j t v (by simpa using ht) (by simpa using hv)) hA
  obtain ⟨n, q2, hrun, hp, hv⟩ := run xs h1 h3
  have hc := sound_calls hm hT hx hxlo hrun hlook hext h2 (g0_relH M W hgl)
  have ha : args.toList.toArray = args := by simp
  rw [ha] at hc
  refine hc.mono (fun e W' he => ?_)
  cases e with
  | returned v =>
    obtain ⟨_, g', hH, hE, hr⟩ := he
    rw [hv] at hr
    have hvb : v = .bool true := by
      cases hr with
      | s h => cases h with
        | d _ _ h => cases h; rfl
    subst hvb
    exact ⟨_, rfl, law_post hvars hW' hs hres htb hl hread hE.io (g0_evo hE)⟩
  | panicked ch =>
    obtain ⟨h, _⟩ := he
    rw [hp] at h; cases h
  | outgrown => exact he.elim
end
end W

/-
  What arguments read as, kind by kind.
-/
set_option linter.unusedSimpArgs false
set_option linter.unusedVariables false
namespace W
open Go (World Value Addr IntKind Program TypeId FuncId Func DataW MemPlace TypeDesc Lit)
theorem look_id {n a b : Nat} (h : look ((List.range n).map fun i => (i, i)) a = some b) : a = b := by
  have key : ∀ (l : List Nat), look (l.map fun i => (i, i)) a = some b → a = b := by
    intro l
    induction l with
    | nil => intro h; cases h
    | cons x l ih =>
      intro h
      simp only [List.map_cons, look, Bool.cond_eq_ite] at h
      split at h
      · rename_i hb
        cases h
        exact Nat.eq_of_beq_eq_true hb
      · exact ih h
  exact key _ h
variable {P : Program} {t e : TypeId} {x : D}
theorem arg_int {k : IntKind} (hu : P.underlying t = some (.int k)) (h : Arg P t x) : ∃ z, x = .i k z ∧ (Lit.int k z).wf = true := by
  obtain ⟨n, xs, ht, rfl⟩ := h
  cases n with
  | zero => exact ht.elim
  | succ n =>
    simp only [Ty, hu] at ht
    obtain ⟨z, rfl, hw⟩ := ht
    exact ⟨z, by simp [aggT, hu, elD], hw⟩
theorem arg_bool (hu : P.underlying t = some .bool) (h : Arg P t x) : ∃ z, x = .b z := by
  obtain ⟨n, xs, ht, rfl⟩ := h
  cases n with
  | zero => exact ht.elim
  | succ n =>
    simp only [Ty, hu] at ht
    obtain ⟨z, rfl⟩ := ht
    exact ⟨z, by simp [aggT, hu, elD]⟩
theorem arg_str (hu : P.underlying t = some .string) (h : Arg P t x) : ∃ s, x = .s s ∧ s.length ≤ Go.maxLen ∧ ∀ c ∈ s, c < 256 := by
  obtain ⟨n, xs, ht, rfl⟩ := h
  cases n with
  | zero => exact ht.elim
  | succ n =>
    simp only [Ty, hu] at ht
    obtain ⟨z, rfl, hw⟩ := ht
    exact ⟨z, by simp [aggT, hu, elD], hw⟩
theorem arg_slice (hu : P.underlying t = some (.slice e)) (h : Arg P t x) : x = .nil ∨ ∃ l : List D, x = .sl l ∧ l.length ≤ Go.maxLen ∧ ∀ y ∈ l, Arg P e y := by
  obtain ⟨n, xs, ht, rfl⟩ := h
  cases n with
  | zero => exact ht.elim
  | succ n =>
    simp only [Ty, hu] at ht
    rcases ht with rfl | ⟨yss, rfl, hl, hy⟩
    · exact .inl (by simp [aggT, hu, elD])
    · refine .inr ⟨yss.map (elD (aggT P e)), by simp [aggT, hu, elD], by simpa using hl, fun y hm => ?_⟩
      obtain ⟨q, hq, rfl⟩ := List.mem_map.1 hm
      exact ⟨n, q, hy q hq, rfl⟩
theorem map_of {α : Type} {f : α → D} : ∀ {l : List D}, (∀ y ∈ l, ∃ a, y = f a) → ∃ L : List α, l = L.map f
  | [], _ => ⟨[], rfl⟩
  | y :: l, h => by
    obtain ⟨a, ha⟩ := h y (by simp)
    obtain ⟨L, hL⟩ := map_of (l := l) (fun z hz => h z (by simp [hz]))
    exact ⟨a :: L, by simp [ha, hL]⟩
inductive SlD {α : Type} (e : α → D) : D → List α → Prop
  | nil : SlD e .nil []
  | sl (L : List α) : SlD e (.sl (L.map e)) L
theorem SlD.len {α : Type} {e : α → D} {x : D} {L : List α} (h : SlD e x L) {H : List Obj} : lenV .lenL (.d x) H = some (.d (.i .i64 L.length)) := by
  cases h with
  | nil => rfl
  | sl => simp [lenV]
theorem SlD.ix {α : Type} {e : α → D} {x : D} {L : List α} (h : SlD e x L) {k : IntKind} {n size : Nat} {y : α} (he : (e y).cells.length = size) (hn : L[n]? = some y) : iaV (.d x) (.d (.i k (n : Nat))) size none = some (.cp (e y)) := by
  cases h with
  | nil => simp at hn
  | sl => exact iaV_sl (by omega) (by simp [hn]) (by simp [he])
theorem arg_sl {α : Type} {f : α → D} (hu : P.underlying t = some (.slice e)) (h : Arg P t x) (he : ∀ y, Arg P e y → ∃ a, y = f a) : ∃ L, SlD f x L := by
  rcases arg_slice hu h with rfl | ⟨l, rfl, _, hl⟩
  · exact ⟨[], .nil⟩
  · obtain ⟨L, rfl⟩ := map_of (f := f) (fun y hy => he y (hl y hy))
    exact ⟨L, .sl L⟩
end W

/-
  Tables that the rows list are what the small semantics reads.
-/
set_option linter.unusedSimpArgs false
set_option linter.unusedVariables false
namespace W
open Go (World Value Addr IntKind Program TypeId FuncId Func DataW MemPlace Lit)
theorem cell_size {W : World} {b i : Nat} {v : Value} (h : W.cell? ⟨b, i, none⟩ = some v) : i < (g0 W).pub b := by
  show i < (match W.heap[b]? with | some (.cells c _ _) => c.size | _ => 0)
  simp only [World.cell?] at h
  split at h
  · rename_i c t f hb
    rw [hb]
    simp only [Option.isSome_none, Bool.false_eq_true, if_false] at h
    exact (Array.getElem?_eq_some_iff.1 h).1
  · cases h
theorem rep_ints {pub : Nat → Nat} {w : World} (k : IntKind) : ∀ zs : List Int, RepDL pub w (zs.map (D.i k)) (zs.map fun z => Value.int k z)
  | [] => .nil
  | z :: zs => .cons _ _ _ _ (.i k z) (rep_ints k zs)
theorem tabIs_mem {P : Program} {W : World} {name : String} {k : IntKind} {zs : List Int} {g : Nat} {t e : TypeId} {n : Nat}
    (hg : P.globalNamed name = some g) (hty : (P.globals[g]?).map (·.type) = some t) (ht : P.underlying t = some (.array n e)) (he : P.underlying e = some (.int k)) (hce : P.cellsOf e = 1) (hct : P.cellsOf t = n) :
    ∀ {laid : List (String × DataW Unit)} {ps : List MemPlace}, DataW.LaidVars P W laid ps → (name, Go.Lib.tabData k zs) ∈ laid → Go.Lib.TabIs P W name k zs
  | [], _, _, hm => by cases hm
  | (nm, d) :: rest, ps, h, hm => by
    obtain ⟨g', t', cs, fuel, p, q, hg', ht', hvar, hd, hrest, _⟩ := h
    rcases List.mem_cons.1 hm with e | hm
    · cases e
      obtain rfl := Option.some.inj (hg.symm.trans hg')
      obtain rfl := Option.some.inj (hty.symm.trans ht')
      unfold Go.Lib.TabIs
      rw [hvar, ← Go.Lib.cells_of_tab ht he hce hct hd]
    · exact tabIs_mem hg hty ht he hce hct hrest hm
theorem glOk_tabs {M : Maps} {P : Program} {W : World} (h2 : GlOk2 M (g0 W) W) (h : ∀ n x, look M.gl n = some x → ∃ name k zs, P.globalNamed name = some n ∧ x = .agg (zs.map (D.i k)) ∧ zs ≠ [] ∧ Go.Lib.TabIs P W name k zs) : GlOk M (g0 W) W := by
  refine ⟨?_, h2⟩
  intro n x hn
  obtain ⟨name, k, zs, hg, rfl, hne, ht⟩ := h n x hn
  refine ⟨zs.map fun z => Value.int k z, rep_ints k zs, fun j v hj => ?_, ?_⟩
  · have hlt : j < zs.length := by
      have := (List.getElem?_eq_some_iff.1 hj).1
      simpa using this
    rw [Nat.zero_add, ht.cell hg j hlt]
    have : (zs.map fun z => Value.int k z)[j]? = some (.int k (zs.getD j 0)) := by simp [List.getD, hlt]
    rw [this] at hj
    exact hj
  · have hpos : 0 < zs.length := by cases zs with | nil => exact absurd rfl hne | cons => simp
    have := cell_size (ht.cell hg (zs.length - 1) (by omega))
    simp only [List.length_map]
    omega
theorem ifc_mem {P : Program} {W : World} {name : String} {g t : Nat} {tn : String} {x : DataW Unit}
    (hg : P.globalNamed name = some g) (hty : (P.globals[g]?).map (·.type) = some t) (hct : P.cellsOf t = 1) :
    ∀ {laid : List (String × DataW Unit)} {ps : List MemPlace}, DataW.LaidVars P W laid ps → (name, DataW.iface tn x) ∈ laid → (∃ ev, W.cell? ⟨g, 0, none⟩ = some ev ∧ (ev = .nilIface ∨ ∃ te pe, ev = .iface te pe)) ∧ 0 < (g0 W).pub g
  | [], _, _, hm => by cases hm
  | (nm, d) :: rest, ps, h, hm => by
    obtain ⟨g', t', cs, fuel, p, q, hg', ht', hvar, hd, hrest, _⟩ := h
    rcases List.mem_cons.1 hm with e | hm
    · cases e
      obtain rfl := Option.some.inj (hg.symm.trans hg')
      obtain rfl := Option.some.inj (hty.symm.trans ht')
      have hcs : ∃ u v, cs.toList = [.iface u v] := by
        generalize hl : cs.toList = l at hd
        cases fuel with
        | zero => simp [DataW.trod] at hd
        | succ fuel =>
          unfold DataW.trod at hd
          split at hd
          all_goals try (exact ⟨_, _, rfl⟩)
          all_goals exfalso
          all_goals try (cases hd; done)
          all_goals try (simp only [Option.map_eq_some_iff, Option.bind_eq_some_iff, Prod.mk.injEq, reduceCtorEq, false_and, and_false, exists_false, exists_const] at hd; done)
          all_goals try split at hd
          all_goals try (cases hd; done)
          all_goals try (simp only [Option.map_eq_some_iff, Option.bind_eq_some_iff, Prod.mk.injEq, reduceCtorEq, false_and, and_false, exists_false, exists_const] at hd; done)
          all_goals try split at hd
          all_goals try (cases hd; done)
          all_goals try (simp only [Option.map_eq_some_iff, Option.bind_eq_some_iff, Prod.mk.injEq, reduceCtorEq, false_and, and_false, exists_false, exists_const] at hd; done)
          all_goals (obtain ⟨en, _, hd⟩ := Option.bind_eq_some_iff.1 hd; simp only at hd; split at hd <;> cases hd)
      obtain ⟨u, v, hcs⟩ := hcs
      have hc1 : cs = #[.iface u v] := by rw [← Array.toList_inj]; exact hcs
      subst hc1
      have hh : ∃ T f, W.heap[g]? = some (.cells #[.iface u v] T f) := by
        simp only [World.var?, hg, Option.bind_some] at hvar
        split at hvar
        · rename_i cs' T f he
          simp only [Option.some.injEq] at hvar
          subst hvar
          exact ⟨T, f, he⟩
        · cases hvar
      obtain ⟨T, f, hh⟩ := hh
      refine ⟨⟨.iface u v, ?_, .inr ⟨u, v, rfl⟩⟩, ?_⟩
      · simp [World.cell?, hh]
      · simp [g0, hh]
    · exact ifc_mem hg hty hct hrest hm
end W

/- The program is what the small semantics runs: the seat's table, shared by its laws. -/
set_option linter.unusedVariables false
set_option linter.unusedSimpArgs false
namespace Go.Proofs.YthaolbkjkigllaaDoor
open Go.ChangeShapes Go.WideShapes Go.ChangeAt Go.RowKit W
set_option maxRecDepth 100000
theorem own : ownKnob Tryd.prog.godebug = none := by kernel_rfl
theorem bulk_ok {H : Type} : Bulk (Rows.uptoBulk (H := H)) Rows.uptoBulkAll :=
  ⟨fun _ => rfl, fun l => by cases l <;> simp [Rows.uptoBulk], rfl, fun _ _ => rfl, fun _ => rfl, rfl, fun _ _ => rfl⟩
def pg0 : W.Pg := ⟨W.prog, fun _ _ _ => none⟩
def maps : Maps := { fm := (List.range 141).map fun i => (i, i), tm := (List.range 155).map fun i => (i, i), gl := [(0, glD 0), (5, glD 5), (6, glD 6), (7, glD 7)], bk := [], gi := [3, 4] }
theorem tr_4 : trFn maps Tryd.prog { loc := [], org := [], mv := [(18, 5, 0)], bl := [(1, [0, 1, 2, 7, 8]), (0, [0, 1, 2, 7]), (3, [1, 2, 7, 9, 10]), (2, [1, 2, 7, 9]), (5, [1, 2, 7, 9, 11, 12]), (4, [2, 7, 9, 11])], ll := [(0, [0, 1, 2, 7, 8]), (2, [1, 2, 7, 9, 10]), (4, [1, 2, 7, 9, 11, 12])] } true Tryd.f4 = some f_waferlaw11_ScanNumbers := by kernel_rfl
theorem tr_6 : trFn maps Tryd.prog { loc := [], org := [], mv := [(24, 3, 0), (19, 3, 0), (18, 5, 0), (13, 3, 0), (11, 4, 0), (6, 3, 0)], bl := [(4, [8, 9]), (3, [8]), (2, [1, 6, 7]), (1, [6]), (0, [5]), (6, [10, 11]), (5, [10])], ll := [(3, [8, 9]), (1, [1, 6, 7]), (5, [10, 11])] } true Tryd.f6 = some f_waferlaw11_ScanLimits := by kernel_rfl
theorem tr_7 : trFn maps Tryd.prog { loc := [], org := [], mv := [(4, 1, 0), (3, 1, 0)], bl := [(1, [0, 1, 2, 7, 8, 9]), (0, [0, 1, 2, 8])], ll := [(0, [0, 1, 2, 7, 8, 9])] } true Tryd.f7 = some f_waferlaw11_ScanKeys := by kernel_rfl
theorem tr_8 : trFn maps Tryd.prog { loc := [], org := [], mv := [(15, 2, 0)], bl := [(1, [0, 1, 5, 6]), (0, [0, 5]), (3, [0, 5, 7]), (2, [5])], ll := [(0, [0, 1, 5, 6]), (2, [0, 5, 7])] } true Tryd.f8 = some f_waferlaw11_ScanComments := by kernel_rfl
theorem tr_9 : trFn maps Tryd.prog { loc := [], org := [], mv := [(11, 2, 0)], bl := [(1, [0, 3, 4]), (0, [3])], ll := [(0, [0, 3, 4])] } true Tryd.f9 = some f_waferlaw11_ScanSigns := by kernel_rfl
theorem tr_11 : trFn maps Tryd.prog { loc := [], org := [], mv := [(3, 1, 0)], bl := [], ll := [] } true Tryd.f11 = some f_waferlaw11_known := by kernel_rfl
theorem tr_13 : trFn maps Tryd.prog { loc := [], org := [], mv := [(2, 0, 0), (2, 1, 0)], bl := [], ll := [] } true Tryd.f13 = some f_waferlaw11_told := by kernel_rfl
theorem tr_15 : trFn maps Tryd.prog { loc := [9], org := [(9, 9), (49, 9)], mv := [(13, 4, 0), (13, 0, 0), (13, 3, 0), (9, 8, 0), (9, 0, 0), (9, 7, 0), (5, 1, 0), (5, 2, 1)], bl := [(1, [0, 5, 6]), (0, [2, 3, 4])], ll := [(0, [0, 5, 6])] } false Tryd.f15 = some f_waferref11_Scan := by kernel_rfl
theorem tr_16 : trFn maps Tryd.prog { loc := [5], org := [(5, 5), (21, 5)], mv := [(6, 4, 1), (6, 0, 9), (6, 3, 0), (5, 3, 1), (2, 3, 1)], bl := [(1, [2, 3, 4]), (0, [2, 3])], ll := [(0, [2, 3, 4])] } false Tryd.f16 = some f_scan_All := by kernel_rfl
theorem tr_17 : trFn maps Tryd.prog { loc := [], org := [], mv := [(1, 1, 0)], bl := [], ll := [] } true Tryd.f17 = some f_scan_Keywords := by kernel_rfl
theorem tr_18 : trFn maps Tryd.prog { loc := [], org := [], mv := [(1, 1, 0)], bl := [], ll := [] } true Tryd.f18 = some f_waferref11_Keywords := by kernel_rfl
theorem tr_19 : trFn maps Tryd.prog { loc := [], org := [], mv := [(1, 1, 0)], bl := [(1, [0, 3, 4]), (0, [])], ll := [(0, [0, 3, 4])] } true Tryd.f19 = some f_waferref11_Keyword := by kernel_rfl
theorem tr_24 : trFn maps Tryd.prog { loc := [], org := [], mv := [], bl := [(1, [0, 1, 5]), (0, [])], ll := [(0, [0, 1, 5])] } true Tryd.f24 = some f_waferhelp_Tokens := by kernel_rfl
theorem tr_25 : trFn maps Tryd.prog { loc := [], org := [], mv := [], bl := [(3, [0, 1]), (2, [0, 1]), (6, [0, 1, 6, 7]), (5, [0, 1, 6, 7]), (4, [0, 1]), (1, [0, 1]), (0, [4, 5])], ll := [(0, [0, 1]), (2, [0, 1]), (4, [0, 1, 6, 7])] } false Tryd.f25 = some f_waferref11_skip := by kernel_rfl
theorem tr_26 : trFn maps Tryd.prog { loc := [4, 8], org := [(4, 4), (8, 8), (47, 8), (50, 8)], mv := [(24, 0, 0), (24, 1, 1), (15, 1, 0), (15, 2, 1), (15, 0, 0), (15, 2, 0), (13, 1, 0), (13, 2, 1), (13, 0, 0), (13, 2, 0), (12, 2, 0), (4, 9, 0), (2, 2, 0)], bl := [(2, [0, 1, 4, 7]), (1, [0, 1, 4, 7]), (0, [0, 1, 4, 6]), (3, [0, 1, 4, 6])], ll := [(1, [0, 1, 4, 7])] } false Tryd.f26 = some f_waferref11_symbol := by kernel_rfl
theorem tr_27 : trFn maps Tryd.prog { loc := [3], org := [(3, 3), (16, 3)], mv := [(5, 4, 1)], bl := [], ll := [] } false Tryd.f27 = some f_scan_All_1 := by kernel_rfl
theorem tr_28 : trFn maps Tryd.prog { loc := [2, 4], org := [(2, 2), (4, 4), (61, 4), (62, 4)], mv := [(4, 2, 1), (12, 2, 1), (11, 2, 0), (10, 2, 1), (9, 10, 0), (8, 2, 1), (7, 10, 0)], bl := [(0, [0, 2, 3, 4])], ll := [] } true Tryd.f28 = some f_scan_scanner_next := by kernel_rfl
theorem tr_29 : trFn maps Tryd.prog { loc := [], org := [], mv := [(14, 2, 0), (13, 2, 0), (13, 0, 0), (13, 1, 0), (9, 4, 0)], bl := [(1, [0, 3, 4, 5, 6]), (0, [0, 3, 5]), (3, [0, 9, 10, 12]), (2, [0, 9, 10, 12]), (7, [0, 9, 10, 12]), (6, [0, 9, 10, 12]), (5, [0, 9, 10, 11, 12]), (4, [0, 9, 10, 11])], ll := [(0, [0, 3, 4, 5, 6]), (2, [0, 9, 10, 12]), (4, [0, 9, 10, 11, 12]), (6, [0, 9, 10, 12])] } true Tryd.f29 = some f_strings_Fields := by kernel_rfl
theorem tr_34 : trFn maps Tryd.prog { loc := [], org := [], mv := [], bl := [], ll := [] } true Tryd.f34 = some f_waferref11_blank := by kernel_rfl
theorem tr_35 : trFn maps Tryd.prog { loc := [], org := [], mv := [], bl := [], ll := [] } true Tryd.f35 = some f_waferref11_letter := by kernel_rfl
theorem tr_36 : trFn maps Tryd.prog { loc := [], org := [], mv := [], bl := [], ll := [] } true Tryd.f36 = some f_waferref11_digit := by kernel_rfl
theorem tr_37 : trFn maps Tryd.prog { loc := [4, 11], org := [(4, 4), (11, 11), (67, 11), (71, 11), (76, 11), (93, 11)], mv := [(23, 3, 1), (13, 4, 1), (5, 5, 0)], bl := [(1, [0, 1, 4, 6, 7, 8, 9]), (0, [0, 1, 4, 6, 7, 8, 9])], ll := [(0, [0, 1, 4, 6, 7, 8, 9])] } false Tryd.f37 = some f_waferref11_number := by kernel_rfl
theorem tr_38 : trFn maps Tryd.prog { loc := [4], org := [(4, 4)], mv := [], bl := [(1, [0, 1, 4, 6]), (0, [0, 1, 4, 6])], ll := [(0, [0, 1, 4, 6])] } false Tryd.f38 = some f_waferref11_quoted := by kernel_rfl
theorem tr_39 : trFn maps Tryd.prog { loc := [], org := [], mv := [], bl := [(1, [0, 1, 5]), (0, [])], ll := [(0, [0, 1, 5])] } true Tryd.f39 = some f_waferref11_has := by kernel_rfl
theorem tr_40 : trFn maps Tryd.prog { loc := [], org := [], mv := [(13, 0, 0), (13, 1, 0), (2, 2, 0)], bl := [(2, [0, 2, 3]), (1, [0, 2, 3]), (0, [2, 3])], ll := [(0, [0, 2, 3])] } false Tryd.f40 = some f_scan_scanner_skip := by kernel_rfl
theorem tr_41 : trFn maps Tryd.prog { loc := [], org := [], mv := [], bl := [], ll := [] } true Tryd.f41 = some f_scan_letter := by kernel_rfl
theorem tr_42 : trFn maps Tryd.prog { loc := [2], org := [(2, 2)], mv := [(5, 3, 0), (4, 0, 0), (4, 1, 0), (2, 2, 0), (2, 0, 0), (2, 1, 0)], bl := [(0, [2, 4])], ll := [] } true Tryd.f42 = some f_scan_scanner_word := by kernel_rfl
theorem tr_43 : trFn maps Tryd.prog { loc := [], org := [], mv := [], bl := [], ll := [] } true Tryd.f43 = some f_scan_digit := by kernel_rfl
theorem tr_44 : trFn maps Tryd.prog { loc := [2], org := [(2, 2)], mv := [(12, 0, 0), (12, 1, 0), (10, 2, 0), (10, 3, 2), (10, 1, 0), (10, 3, 1), (10, 0, 0), (10, 3, 0), (7, 2, 0), (4, 2, 0), (2, 2, 0)], bl := [(0, [2, 3, 4, 5, 6, 7])], ll := [] } true Tryd.f44 = some f_scan_scanner_number := by kernel_rfl
theorem tr_45 : trFn maps Tryd.prog { loc := [], org := [], mv := [(1, 11, 0), (1, 9, 0), (1, 10, 1)], bl := [], ll := [] } true Tryd.f45 = some f_scan_scanner_has := by kernel_rfl
theorem tr_46 : trFn maps Tryd.prog { loc := [2], org := [(2, 2)], mv := [(7, 0, 0), (7, 1, 0), (5, 0, 0), (5, 1, 0), (3, 2, 0)], bl := [(0, [0, 2, 4])], ll := [] } true Tryd.f46 = some f_scan_scanner_text := by kernel_rfl
theorem tr_47 : trFn maps Tryd.prog { loc := [2], org := [(2, 2)], mv := [], bl := [(1, [0, 2, 5, 6, 7]), (0, [0, 2])], ll := [(0, [0, 2, 5, 6, 7])] } true Tryd.f47 = some f_scan_scanner_sign := by kernel_rfl
theorem tr_57 : trFn maps Tryd.prog { loc := [], org := [], mv := [(2, 3, 0), (1, 2, 0)], bl := [(0, [])], ll := [] } true Tryd.f57 = some f_waferref11_hex := by kernel_rfl
theorem tr_59 : trFn maps Tryd.prog { loc := [], org := [], mv := [], bl := [], ll := [] } false Tryd.f59 = some f_scan_fail := by kernel_rfl
theorem tr_60 : trFn maps Tryd.prog { loc := [], org := [], mv := [], bl := [(1, [0, 1, 5]), (0, [0, 5])], ll := [(0, [0, 1, 5])] } true Tryd.f60 = some f_scan_scanner_while := by kernel_rfl
theorem tr_61 : trFn maps Tryd.prog { loc := [], org := [], mv := [(1, 2, 0)], bl := [], ll := [] } true Tryd.f61 = some f_scan_named := by kernel_rfl
theorem tr_62 : trFn maps Tryd.prog { loc := [], org := [], mv := [(1, 1, 0), (1, 2, 1), (1, 0, 0), (1, 2, 0)], bl := [], ll := [] } true Tryd.f62 = some f_slices_Contains___string_string_ := by kernel_rfl
theorem tr_63 : trFn maps Tryd.prog { loc := [], org := [], mv := [(1, 2, 0)], bl := [], ll := [] } true Tryd.f63 = some f_scan_hex := by kernel_rfl
theorem tr_64 : trFn maps Tryd.prog { loc := [], org := [], mv := [(3, 7, 0), (3, 4, 0), (3, 5, 4), (3, 3, 0), (3, 5, 3), (3, 2, 0), (3, 5, 2), (3, 1, 0), (3, 5, 1)], bl := [], ll := [] } false Tryd.f64 = some f_strconv_ParseUint := by kernel_rfl
theorem tr_65 : trFn maps Tryd.prog { loc := [], org := [], mv := [(1, 3, 0), (1, 1, 0), (1, 2, 1), (1, 0, 0), (1, 2, 0)], bl := [], ll := [] } true Tryd.f65 = some f_strings_HasPrefix := by kernel_rfl
theorem tr_66 : trFn maps Tryd.prog { loc := [], org := [], mv := [], bl := [], ll := [] } true Tryd.f66 = some f_scan_scanner_text_1 := by kernel_rfl
theorem tr_74 : trFn maps Tryd.prog { loc := [], org := [], mv := [], bl := [(1, [0, 1, 7, 8]), (0, [])], ll := [(0, [0, 1, 7, 8])] } true Tryd.f74 = some f_slices_Index___string_string_ := by kernel_rfl
theorem tr_75 : trFn maps Tryd.prog { loc := [], org := [], mv := [(45, 0, 0), (45, 1, 0)], bl := [(1, [0, 1, 2, 8, 9]), (0, [0, 1, 2, 8, 9]), (2, [0, 1, 2, 8, 9, 10]), (5, [1, 8, 9, 10, 11, 12, 13, 16, 99, 100, 101]), (4, [1, 8, 9, 10, 11, 12, 13, 99, 100, 101]), (3, [9, 12, 13])], ll := [(3, [1, 8, 9, 10, 11, 12, 13, 99, 100, 101])] } false Tryd.f75 = some f_internal_strconv_ParseUint := by kernel_rfl
theorem tr_77 : trFn maps Tryd.prog { loc := [], org := [], mv := [], bl := [], ll := [] } true Tryd.f77 = some f_internal_stringslite_HasPrefix := by kernel_rfl
theorem tr_85 : trFn maps Tryd.prog { loc := [], org := [], mv := [], bl := [], ll := [] } true Tryd.f85 = some f_internal_strconv_lower := by kernel_rfl
theorem tabF : TabF Tryd.prog maps pg0 := by
  intro f' i hl fn' hf
  have e : f' = i := look_id hl
  subst e
  unfold pg0 prog at hf
  simp only [Bool.cond_eq_ite] at hf
  by_cases h4 : f' = 4
  · subst h4; simp at hf; subst hf; exact ⟨_, _, _, Tryd.func4, by decide +kernel, tr_4⟩
  rw [if_neg (by simpa using h4)] at hf
  by_cases h6 : f' = 6
  · subst h6; simp at hf; subst hf; exact ⟨_, _, _, Tryd.func6, by decide +kernel, tr_6⟩
  rw [if_neg (by simpa using h6)] at hf
  by_cases h7 : f' = 7
  · subst h7; simp at hf; subst hf; exact ⟨_, _, _, Tryd.func7, by decide +kernel, tr_7⟩
  rw [if_neg (by simpa using h7)] at hf
  by_cases h8 : f' = 8
  · subst h8; simp at hf; subst hf; exact ⟨_, _, _, Tryd.func8, by decide +kernel, tr_8⟩
  rw [if_neg (by simpa using h8)] at hf
  by_cases h9 : f' = 9
  · subst h9; simp at hf; subst hf; exact ⟨_, _, _, Tryd.func9, by decide +kernel, tr_9⟩
  rw [if_neg (by simpa using h9)] at hf
  by_cases h11 : f' = 11
  · subst h11; simp at hf; subst hf; exact ⟨_, _, _, Tryd.func11, by decide +kernel, tr_11⟩
  rw [if_neg (by simpa using h11)] at hf
  by_cases h13 : f' = 13
  · subst h13; simp at hf; subst hf; exact ⟨_, _, _, Tryd.func13, by decide +kernel, tr_13⟩
  rw [if_neg (by simpa using h13)] at hf
  by_cases h15 : f' = 15
  · subst h15; simp at hf; subst hf; exact ⟨_, _, _, Tryd.func15, by decide +kernel, tr_15⟩
  rw [if_neg (by simpa using h15)] at hf
  by_cases h16 : f' = 16
  · subst h16; simp at hf; subst hf; exact ⟨_, _, _, Tryd.func16, by decide +kernel, tr_16⟩
  rw [if_neg (by simpa using h16)] at hf
  by_cases h17 : f' = 17
  · subst h17; simp at hf; subst hf; exact ⟨_, _, _, Tryd.func17, by decide +kernel, tr_17⟩
  rw [if_neg (by simpa using h17)] at hf
  by_cases h18 : f' = 18
  · subst h18; simp at hf; subst hf; exact ⟨_, _, _, Tryd.func18, by decide +kernel, tr_18⟩
  rw [if_neg (by simpa using h18)] at hf
  by_cases h19 : f' = 19
  · subst h19; simp at hf; subst hf; exact ⟨_, _, _, Tryd.func19, by decide +kernel, tr_19⟩
  rw [if_neg (by simpa using h19)] at hf
  by_cases h24 : f' = 24
  · subst h24; simp at hf; subst hf; exact ⟨_, _, _, Tryd.func24, by decide +kernel, tr_24⟩
  rw [if_neg (by simpa using h24)] at hf
  by_cases h25 : f' = 25
  · subst h25; simp at hf; subst hf; exact ⟨_, _, _, Tryd.func25, by decide +kernel, tr_25⟩
  rw [if_neg (by simpa using h25)] at hf
  by_cases h26 : f' = 26
  · subst h26; simp at hf; subst hf; exact ⟨_, _, _, Tryd.func26, by decide +kernel, tr_26⟩
  rw [if_neg (by simpa using h26)] at hf
  by_cases h27 : f' = 27
  · subst h27; simp at hf; subst hf; exact ⟨_, _, _, Tryd.func27, by decide +kernel, tr_27⟩
  rw [if_neg (by simpa using h27)] at hf
  by_cases h28 : f' = 28
  · subst h28; simp at hf; subst hf; exact ⟨_, _, _, Tryd.func28, by decide +kernel, tr_28⟩
  rw [if_neg (by simpa using h28)] at hf
  by_cases h29 : f' = 29
  · subst h29; simp at hf; subst hf; exact ⟨_, _, _, Tryd.func29, by decide +kernel, tr_29⟩
  rw [if_neg (by simpa using h29)] at hf
  by_cases h34 : f' = 34
  · subst h34; simp at hf; subst hf; exact ⟨_, _, _, Tryd.func34, by decide +kernel, tr_34⟩
  rw [if_neg (by simpa using h34)] at hf
  by_cases h35 : f' = 35
  · subst h35; simp at hf; subst hf; exact ⟨_, _, _, Tryd.func35, by decide +kernel, tr_35⟩
  rw [if_neg (by simpa using h35)] at hf
  by_cases h36 : f' = 36
  · subst h36; simp at hf; subst hf; exact ⟨_, _, _, Tryd.func36, by decide +kernel, tr_36⟩
  rw [if_neg (by simpa using h36)] at hf
  by_cases h37 : f' = 37
  · subst h37; simp at hf; subst hf; exact ⟨_, _, _, Tryd.func37, by decide +kernel, tr_37⟩
  rw [if_neg (by simpa using h37)] at hf
  by_cases h38 : f' = 38
  · subst h38; simp at hf; subst hf; exact ⟨_, _, _, Tryd.func38, by decide +kernel, tr_38⟩
  rw [if_neg (by simpa using h38)] at hf
  by_cases h39 : f' = 39
  · subst h39; simp at hf; subst hf; exact ⟨_, _, _, Tryd.func39, by decide +kernel, tr_39⟩
  rw [if_neg (by simpa using h39)] at hf
  by_cases h40 : f' = 40
  · subst h40; simp at hf; subst hf; exact ⟨_, _, _, Tryd.func40, by decide +kernel, tr_40⟩
  rw [if_neg (by simpa using h40)] at hf
  by_cases h41 : f' = 41
  · subst h41; simp at hf; subst hf; exact ⟨_, _, _, Tryd.func41, by decide +kernel, tr_41⟩
  rw [if_neg (by simpa using h41)] at hf
  by_cases h42 : f' = 42
  · subst h42; simp at hf; subst hf; exact ⟨_, _, _, Tryd.func42, by decide +kernel, tr_42⟩
  rw [if_neg (by simpa using h42)] at hf
  by_cases h43 : f' = 43
  · subst h43; simp at hf; subst hf; exact ⟨_, _, _, Tryd.func43, by decide +kernel, tr_43⟩
  rw [if_neg (by simpa using h43)] at hf
  by_cases h44 : f' = 44
  · subst h44; simp at hf; subst hf; exact ⟨_, _, _, Tryd.func44, by decide +kernel, tr_44⟩
  rw [if_neg (by simpa using h44)] at hf
  by_cases h45 : f' = 45
  · subst h45; simp at hf; subst hf; exact ⟨_, _, _, Tryd.func45, by decide +kernel, tr_45⟩
  rw [if_neg (by simpa using h45)] at hf
  by_cases h46 : f' = 46
  · subst h46; simp at hf; subst hf; exact ⟨_, _, _, Tryd.func46, by decide +kernel, tr_46⟩
  rw [if_neg (by simpa using h46)] at hf
  by_cases h47 : f' = 47
  · subst h47; simp at hf; subst hf; exact ⟨_, _, _, Tryd.func47, by decide +kernel, tr_47⟩
  rw [if_neg (by simpa using h47)] at hf
  by_cases h57 : f' = 57
  · subst h57; simp at hf; subst hf; exact ⟨_, _, _, Tryd.func57, by decide +kernel, tr_57⟩
  rw [if_neg (by simpa using h57)] at hf
  by_cases h59 : f' = 59
  · subst h59; simp at hf; subst hf; exact ⟨_, _, _, Tryd.func59, by decide +kernel, tr_59⟩
  rw [if_neg (by simpa using h59)] at hf
  by_cases h60 : f' = 60
  · subst h60; simp at hf; subst hf; exact ⟨_, _, _, Tryd.func60, by decide +kernel, tr_60⟩
  rw [if_neg (by simpa using h60)] at hf
  by_cases h61 : f' = 61
  · subst h61; simp at hf; subst hf; exact ⟨_, _, _, Tryd.func61, by decide +kernel, tr_61⟩
  rw [if_neg (by simpa using h61)] at hf
  by_cases h62 : f' = 62
  · subst h62; simp at hf; subst hf; exact ⟨_, _, _, Tryd.func62, by decide +kernel, tr_62⟩
  rw [if_neg (by simpa using h62)] at hf
  by_cases h63 : f' = 63
  · subst h63; simp at hf; subst hf; exact ⟨_, _, _, Tryd.func63, by decide +kernel, tr_63⟩
  rw [if_neg (by simpa using h63)] at hf
  by_cases h64 : f' = 64
  · subst h64; simp at hf; subst hf; exact ⟨_, _, _, Tryd.func64, by decide +kernel, tr_64⟩
  rw [if_neg (by simpa using h64)] at hf
  by_cases h65 : f' = 65
  · subst h65; simp at hf; subst hf; exact ⟨_, _, _, Tryd.func65, by decide +kernel, tr_65⟩
  rw [if_neg (by simpa using h65)] at hf
  by_cases h66 : f' = 66
  · subst h66; simp at hf; subst hf; exact ⟨_, _, _, Tryd.func66, by decide +kernel, tr_66⟩
  rw [if_neg (by simpa using h66)] at hf
  by_cases h74 : f' = 74
  · subst h74; simp at hf; subst hf; exact ⟨_, _, _, Tryd.func74, by decide +kernel, tr_74⟩
  rw [if_neg (by simpa using h74)] at hf
  by_cases h75 : f' = 75
  · subst h75; simp at hf; subst hf; exact ⟨_, _, _, Tryd.func75, by decide +kernel, tr_75⟩
  rw [if_neg (by simpa using h75)] at hf
  by_cases h77 : f' = 77
  · subst h77; simp at hf; subst hf; exact ⟨_, _, _, Tryd.func77, by decide +kernel, tr_77⟩
  rw [if_neg (by simpa using h77)] at hf
  by_cases h85 : f' = 85
  · subst h85; simp at hf; subst hf; exact ⟨_, _, _, Tryd.func85, by decide +kernel, tr_85⟩
  rw [if_neg (by simpa using h85)] at hf
  cases hf
theorem backOk : BackOk Tryd.prog maps := backOk_none rfl
theorem tab : Tab Tryd.prog maps pg0 := ⟨tabF, backOk⟩
theorem tabA : Tab Tryd.prog maps W.pgA := ⟨fun f' i hl fn' hf => tab.1 f' i hl fn' (by
  unfold W.pgA at hf
  simp only [Bool.cond_eq_ite] at hf
  split at hf
  · cases hf
  · split at hf
    · cases hf
    · exact hf), tab.2⟩
theorem tab1 : Tab Tryd.prog maps W.pg := ⟨fun f' i hl fn' hf => tab.1 f' i hl fn' (by
  unfold W.pg at hf
  simp only [Bool.cond_eq_ite] at hf
  split at hf
  · cases hf
  · split at hf
    · cases hf
    · split at hf
      · cases hf
      · exact hf), tab.2⟩
theorem ixC : IxC Tryd.prog 58 := fun s c w => Tryd.strings_IndexByte s c w
theorem teS : TeC Tryd.prog 76 3 2 := fun fn s base bits ev w h1 h2 h3 => (Tryd.toError_syntax fn s base bits ev w h1 h2 h3).mono (by rintro e w' ⟨N, q1, _, _, q2⟩; exact ⟨N, q1, q2⟩)
theorem teR : TeC Tryd.prog 76 4 1 := fun fn s base bits ev w h1 h2 h3 => (Tryd.toError_range fn s base bits ev w h1 h2 h3).mono (by rintro e w' ⟨N, q1, _, _, q2⟩; exact ⟨N, q1, q2⟩)
theorem sim58 {g : Gh} {w : World} {vs : List V} {H : List W.Obj} {r : Cr} (h : ixX vs H = some r) {argv : List Value} (ha : ArgsRep maps g w 0 vs argv) (hH : RelH maps g w H) : Does Tryd.prog 58 argv.toArray w (CallPost maps g w r) := by
  have hs : Tryd.f58.body.isSome = true := by kernel_rfl
  obtain ⟨c, hc⟩ := Option.isSome_iff_exists.1 hs
  exact ixX_sim ixC Tryd.func58 (by decide +kernel) hc h ha hH
theorem sim76 {g : Gh} {w : World} {vs : List V} {H : List W.Obj} {r : Cr} (h : teX vs H = some r) {argv : List Value} (ha : ArgsRep maps g w 0 vs argv) (hH : RelH maps g w H) : Does Tryd.prog 76 argv.toArray w (CallPost maps g w r) := by
  have hs : Tryd.f76.body.isSome = true := by kernel_rfl
  obtain ⟨c, hc⟩ := Option.isSome_iff_exists.1 hs
  exact teX_sim teS teR (by simp [maps]) (by simp [maps]) (by decide +kernel) (fun t' ht => look_id ht) Tryd.func76 (by decide +kernel) hc h ha hH
theorem extA_sim : CallSim Tryd.prog maps W.pgA.ext := by
  intro i vs H r h f' hl g w argv ha hH
  have e : f' = i := look_id hl
  subst e
  unfold W.pgA at h
  simp only [Bool.cond_eq_ite] at h
  split at h
  · rename_i hb
    have e2 : f' = 58 := by simpa using hb
    subst e2
    exact sim58 h ha hH
  · split at h
    · rename_i hb
      have e2 : f' = 76 := by simpa using hb
      subst e2
      exact sim76 h ha hH
    · cases h
theorem ext_sim : CallSim Tryd.prog maps W.pg.ext := by
  intro i vs H r h f' hl g w argv ha hH
  have e : f' = i := look_id hl
  subst e
  unfold W.pg at h
  simp only [Bool.cond_eq_ite] at h
  split at h
  · rename_i hb
    have e2 : f' = 58 := by simpa using hb
    subst e2
    exact sim58 h ha hH
  · split at h
    · rename_i hb
      have e2 : f' = 76 := by simpa using hb
      subst e2
      exact sim76 h ha hH
    · split at h
      · rename_i hb
        have e2 : f' = 17 := by simpa using hb
        subst e2
        unfold kwX at h
        split at h
        · cases h
          cases ha
          obtain ⟨lo, hk⟩ := isD_call extA_lo kw_run
          obtain ⟨n, hn⟩ := callL_iff.1 hk
          exact frame_sim (sound (by kernel_rfl) tabA extA_sim extA_lo n) hn hl hH
        · cases h
      · cases h
end Go.Proofs.YthaolbkjkigllaaDoor

set_option linter.unusedSimpArgs false
set_option linter.unusedVariables false
namespace W
open Go (IntKind BinOp UnOp)
set_option maxRecDepth 20000
def blk (c : Nat) : Bool := decide (c = 9) || decide (c = 10) || decide (c = 13) || decide (c = 32)
theorem ix_blk {c : Nat} (hc : c < 256) : ((0 : Int) ≤ ixN c [9, 10, 13, 32]) = (blk c = true) := by
  have h : ∀ c : Fin 256, decide ((0 : Int) ≤ ixN c [9, 10, 13, 32]) = blk c := by decide +kernel
  have := h ⟨c, hc⟩
  simp only at this
  rw [← this]; simp
def sk (deep frm a : Nat) : List Nat → Bool × Nat
  | [] => if deep = 0 then (true, a) else (false, frm)
  | [c] => if deep = 0 then (if blk c then (true, a + 1) else (true, a)) else (false, frm)
  | c :: d :: l =>
    if c = 40 ∧ d = 42 then sk (deep + 1) (if deep = 0 then a else frm) (a + 2) l
    else if 0 < deep ∧ c = 42 ∧ d = 41 then sk (deep - 1) frm (a + 2) l
    else if 0 < deep ∨ blk c = true then sk deep frm (a + 1) (d :: l)
    else (true, a)
theorem drop_c {s : List Nat} {a c : Nat} {l : List Nat} (h : s.drop a = c :: l) : s[a]? = some c ∧ s.drop (a + 1) = l ∧ a < s.length := by
  have hl : a < s.length := by
    rcases Nat.lt_or_ge a s.length with h1 | h1
    · exact h1
    · rw [List.drop_eq_nil_of_le h1] at h; cases h
  rw [drop_cons hl] at h
  injection h with h1 h2
  exact ⟨by rw [← h1]; simp, h2, hl⟩
def SkRes (id : Nat) (s : List Nat) (a : Nat) (H : List Obj) (lo : Nat) (r : Bool × Nat) (X : Option (Ex × St)) : Prop :=
  match r with
  | (true, a') => ∃ x e lo', (x = .nrm ∨ x = .ret) ∧ min lo id ≤ lo' ∧ (a' = a ∨ lo' ≤ id) ∧ lo' ≤ lo ∧ X = some (x, ⟨e, setAt H id (sc s a'), lo'⟩)
  | (false, p) => ∃ e lo' a', min lo id ≤ lo' ∧ lo' ≤ lo ∧ (a' = a ∨ lo' ≤ id) ∧ X = some (.pan (.ifc 66 (.d (.agg [.i .i64 (p : Nat), .i .i64 30]))), ⟨e, setAt H id (sc s a'), lo'⟩)
theorem SkRes.step {id : Nat} {s : List Nat} {a a2 : Nat} {H : List Obj} {lo : Nat} {r : Bool × Nat} {X : Option (Ex × St)} (h : SkRes id s a2 (setAt H id (sc s a2)) (min lo id) r X) : SkRes id s a H lo r X := by
  obtain ⟨b, p⟩ := r
  cases b with
  | true =>
    obtain ⟨x, e, lo', h1, h2, h3, h4, h5⟩ := h
    rw [setAt_setAt] at h5
    exact ⟨x, e, lo', h1, by omega, .inr (by omega), by omega, h5⟩
  | false =>
    obtain ⟨e, lo', a', h1, h2, h3, h5⟩ := h
    rw [setAt_setAt] at h5
    exact ⟨e, lo', a', by omega, by omega, .inr (by omega), h5⟩
theorem SkRes.stay {id : Nat} {s : List Nat} {a : Nat} {H : List Obj} {lo : Nat} {X : Option (Ex × St)} (hH : H[id]? = some (sc s a)) (h : ∃ x e, (x = .nrm ∨ x = .ret) ∧ X = some (x, ⟨e, H, lo⟩)) : SkRes id s a H lo (true, a) X := by
  obtain ⟨x, e, hx, h⟩ := h
  exact ⟨x, e, lo, hx, Nat.min_le_left _ _, .inl rfl, Nat.le_refl _, by rw [setAt_self hH]; exact h⟩
theorem SkRes.bad {id p : Nat} {s : List Nat} {a : Nat} {H : List Obj} {lo : Nat} {X : Option (Ex × St)} (hH : H[id]? = some (sc s a)) (h : ∃ e, X = some (.pan (.ifc 66 (.d (.agg [.i .i64 (p : Nat), .i .i64 30]))), ⟨e, H, lo⟩)) : SkRes id s a H lo (false, p) X := by
  obtain ⟨e, h⟩ := h
  exact ⟨e, lo, a, Nat.min_le_left _ _, Nat.le_refl _, .inl rfl, by rw [setAt_self hH]; exact h⟩
theorem pre2 {x y c d : Nat} {l : List Nat} : pre [x, y] (c :: d :: l) = (decide (c = x ∧ d = y)) := by simp [pre]
theorem pre21 {x y c : Nat} : pre [x, y] [c] = false := by simp [pre]
theorem skip_loop {s : List Nat} (hs : ∀ c ∈ s, c < 256) (hz : s.length ≤ 1000000) {id : Nat} :
    ∀ (k a deep frm : Nat) (H : List Obj) (lo : Nat), s.length - a ≤ k → a ≤ s.length → deep ≤ a → H[id]? = some (sc s a) → lo ≤ H.length →
      SkRes id s a H lo (sk deep frm a (s.drop a)) (thenC pg (blockC 0 [2, 3] (f_scan_scanner_skip_l0 pg (.ptr id 0) (.d (.i .i64 (frm : Nat))) (.d (.i .i64 (deep : Nat))) H lo)) f_scan_scanner_skip_R1) := by
  have endc : ∀ (deep frm : Nat) (H : List Obj) (lo : Nat), H[id]? = some (sc s s.length) → lo ≤ H.length →
      SkRes id s s.length H lo (if deep = 0 then (true, s.length) else (false, frm)) (thenC pg (blockC 0 [2, 3] (f_scan_scanner_skip_l0 pg (.ptr id 0) (.d (.i .i64 (frm : Nat))) (.d (.i .i64 (deep : Nat))) H lo)) f_scan_scanner_skip_R1) := by
    intro deep frm H lo hH hlo
    have h1 : ((s.length : Int) < (s.length : Int)) = False := by simp
    have hm : min lo H.length = lo := by omega
    have hsf := setAt_self hH
    rw [f_scan_scanner_skip_l0_eq]
    by_cases hd : deep = 0
    · subst hd
      have h2 : ((0 : Int) < ((0 : Nat) : Int)) = False := by simp
      rw [if_pos rfl]
      refine .stay hH ⟨.nrm, ?_⟩
      simp only [reduceCtorEq, f_scan_scanner_skip_B0, keepV_ptr, keepV_d, Int.cast_ofNat_Int, exL_seq, exL_opsD, runOpsD_n, evalK_mov, rd_t, get_eq, readV_ptr, spent_t, opDC_same, putD_ptr, putC_some, evalK_nilCheck, okS_some, evalK_fieldAddr, faV_ptr, Nat.zero_add, evalK_load, loadV_ptr, hH, cellV_1, List.getElem?_cons_succ, List.getElem?_cons_zero, Option.map_some, copy1_d, putD_d, get_ne, Nat.add_zero, evalK_lenS, readV_d, lenS_s, evalK_bin, isC_t, Bool.or_self, Nat.reduceEqDiff, bin_lss, h1, decide_false, opDC_serial, runOpsD_nil, thenC_nrm, exL_cond, condC_b, Bool.false_eq_true, ↓reduceIte, exL_exit, thenC_exit, blockC_exit, restrict_cons, restrict_nil, f_scan_scanner_skip_R1, exL_ops, runOps_n, opC_ok, put_d, isC_c, Bool.or_true, rd_c, bin_gtr, Int.reduceLT, runOps_nil, exL_skip]
      exact ⟨_, by simp, rfl⟩
    · have h2 : ((0 : Int) < ((deep : Nat) : Int)) = True := by rw [eq_iff_iff]; simp; omega
      rw [if_neg hd]
      refine .bad hH ?_
      simp only [f_scan_scanner_skip_B0, keepV_ptr, keepV_d, exL_seq, exL_opsD, runOpsD_n, evalK_mov, rd_t, get_eq, readV_ptr, spent_t, opDC_same, putD_ptr, putC_some, evalK_nilCheck, okS_some, evalK_fieldAddr, faV_ptr, Nat.zero_add, evalK_load, loadV_ptr, hH, cellV_1, List.getElem?_cons_succ, List.getElem?_cons_zero, Option.map_some, copy1_d, putD_d, reduceCtorEq, get_ne, Nat.add_zero, evalK_lenS, readV_d, lenS_s, evalK_bin, isC_t, Bool.or_self, Nat.reduceEqDiff, bin_lss, h1, decide_false, opDC_serial, runOpsD_nil, thenC_nrm, exL_cond, condC_b, Bool.false_eq_true, ↓reduceIte, exL_exit, thenC_exit, blockC_exit, restrict_cons, restrict_nil, f_scan_scanner_skip_R1, exL_ops, runOps_n, opC_ok, put_d, isC_c, Bool.or_true, rd_c, bin_gtr, h2, decide_true, runOps_nil, rd_mv, takeV_d, spent_mv, evalK_call, List.map_cons, List.map_nil, allLeave_cons, leaves_d, allLeave_nil, Bool.and_self, eCall_f, fail_call, callC_some, spentAll_cons, spent_c, spentAll_nil, hm, opC_pan]
      exact ⟨_, rfl⟩
  intro k
  induction k with
  | zero =>
    intro a deep frm H lo hk ha hda hH hlo
    obtain rfl : a = s.length := by omega
    rw [List.drop_length]
    exact endc deep frm H lo hH hlo
  | succ k ih =>
    intro a deep frm H lo hk ha hda hH hlo
    have hm : min lo H.length = lo := by omega
    have hid : id < H.length := (List.getElem?_eq_some_iff.1 hH).1
    match hL : s.drop a with
    | [] =>
      have : s.length ≤ a := by simpa using hL
      obtain rfl : a = s.length := by omega
      exact endc deep frm H lo hH hlo
    | c :: L =>
      obtain ⟨hget, hdr, hlt⟩ := drop_c hL
      have h1 : ((a : Int) < (s.length : Int)) = True := by rw [eq_iff_iff]; simp; omega
      have hix : ixV (.d (.s s)) (.d (.i .i64 (a : Int))) = some (.d (.i .u8 ((c : Nat) : Int))) := ixV_s (by omega) (by simpa using hget)
      have hw1 : wr .i64 ((a : Int) + 1) = ((a + 1 : Nat) : Int) := by rw [wr_i64 (by omega) (by omega)]; omega
      have hw2 : wr .i64 ((a : Int) + 2) = ((a + 2 : Nat) : Int) := by rw [wr_i64 (by omega) (by omega)]; omega
      have hd1 : wr .i64 ((deep : Int) + 1) = ((deep + 1 : Nat) : Int) := by rw [wr_i64 (by omega) (by omega)]; omega
      have hc : c < 256 := hs c (List.mem_of_getElem? hget)
      have hh1 := has_call (t := [40, 42]) hH (by omega)
      have hh2 := has_call (t := [42, 41]) hH (by omega)
      have hi := fun (t : List Nat) => ix_call (t := t) hc (H := H)
      have hb := ix_blk hc
      rw [hL] at hh1 hh2
      -- one byte further
      have go1 : ∀ (h0 : (0 < deep ∨ blk c = true)) (p1 : pre [40, 42] (c :: L) = false) (p2 : 0 < deep → pre [42, 41] (c :: L) = false),
          SkRes id s a H lo (sk deep frm (a + 1) L) (thenC pg (blockC 0 [2, 3] (f_scan_scanner_skip_l0 pg (.ptr id 0) (.d (.i .i64 (frm : Nat))) (.d (.i .i64 (deep : Nat))) H lo)) f_scan_scanner_skip_R1) := by
        intro h0 p1 p2
        have hH2 : (setAt H id (sc s (a + 1)))[id]? = some (sc s (a + 1)) := setAt_get hH
        have ih' := ih (a + 1) deep frm (setAt H id (sc s (a + 1))) (min lo id) (by omega) (by omega) (by omega) hH2 (by simp only [setAt_length]; omega)
        rw [hdr] at ih'
        refine SkRes.step (a2 := a + 1) ?_
        rw [f_scan_scanner_skip_l0_eq]
        rw [p1] at hh1
        by_cases hd : deep = 0
        · subst hd
          have h2 : ((0 : Int) < ((0 : Nat) : Int)) = False := by simp
          have hbk : ((0 : Int) ≤ ixN c [9, 10, 13, 32]) = True := by rw [hb]; exact eq_true (h0.resolve_left (by omega))
          simp only [f_scan_scanner_skip_B0, keepV_ptr, keepV_d, Int.cast_ofNat_Int, exL_seq, exL_opsD, runOpsD_n, evalK_mov, rd_t, get_eq, readV_ptr, spent_t, opDC_same, putD_ptr, putC_some, evalK_nilCheck, okS_some, evalK_fieldAddr, faV_ptr, Nat.zero_add, evalK_load, loadV_ptr, hH, cellV_1, List.getElem?_cons_succ, List.getElem?_cons_zero, Option.map_some, copy1_d, putD_d, reduceCtorEq, get_ne, Nat.add_zero, evalK_lenS, readV_d, lenS_s, evalK_bin, isC_t, Bool.or_self, Nat.reduceEqDiff, bin_lss, h1, decide_true, opDC_serial, runOpsD_nil, thenC_nrm, exL_cond, condC_b, ↓reduceIte, exL_skip, exL_block, exL_ops, runOps_n, opC_ok, put_ptr, evalK_call, List.map_cons, rd_c, List.map_nil, allLeave_cons, leaves_ptr, leaves_d, allLeave_nil, Bool.and_self, eCall_f, hh1, callC_some, spentAll_cons, spent_c, spentAll_nil, hm, put_d, rd_mv, takeV_d, spent_mv, runOps_nil, Bool.false_eq_true, isC_c, Bool.or_true, bin_gtr, Int.reduceLT, decide_false, runOps_g, wantG_bt, wantC_b, put_tup, evalK_pick, readV_tup, pickV_f, runOpsD_g, wantG_bf, Bool.not_false, wantDC_b, evalK_index, hix, hi, bin_geq, hbk, pickV_b, bin_add, hw1, evalK_store, storeV_P, one_i, cells_d1, List.length_cons, List.length_nil, ones_cons, vone_d, ones_nil, storeP_cells, Nat.reduceAdd, Nat.reduceLT, setCells_1, List.set_cons_succ, List.set_cons_zero, storePR_some, put_none, blockC_nrm, restrict_cons, restrict_nil, f_scan_scanner_skip_l0_in]
          exact ih'
        · have h2 : ((0 : Int) < ((deep : Nat) : Int)) = True := by rw [eq_iff_iff]; simp; omega
          rw [p2 (by omega)] at hh2
          simp only [f_scan_scanner_skip_B0, keepV_ptr, keepV_d, exL_seq, exL_opsD, runOpsD_n, evalK_mov, rd_t, get_eq, readV_ptr, spent_t, opDC_same, putD_ptr, putC_some, evalK_nilCheck, okS_some, evalK_fieldAddr, faV_ptr, Nat.zero_add, evalK_load, loadV_ptr, hH, cellV_1, List.getElem?_cons_succ, List.getElem?_cons_zero, Option.map_some, copy1_d, putD_d, reduceCtorEq, get_ne, Nat.add_zero, evalK_lenS, readV_d, lenS_s, evalK_bin, isC_t, Bool.or_self, Nat.reduceEqDiff, bin_lss, h1, decide_true, opDC_serial, runOpsD_nil, thenC_nrm, exL_cond, condC_b, ↓reduceIte, exL_skip, exL_block, exL_ops, runOps_n, opC_ok, put_ptr, evalK_call, List.map_cons, rd_c, List.map_nil, allLeave_cons, leaves_ptr, leaves_d, allLeave_nil, Bool.and_self, eCall_f, hh1, callC_some, spentAll_cons, spent_c, spentAll_nil, hm, put_d, rd_mv, takeV_d, spent_mv, runOps_nil, Bool.false_eq_true, isC_c, Bool.or_true, bin_gtr, h2, runOps_g, wantG_bt, wantC_b, hh2, evalK_pick, pickV_b, runOpsD_g, wantG_bf, Bool.not_true, wantDC_b, put_tup, readV_tup, pickV_t, bin_add, hw1, evalK_store, storeV_P, one_i, cells_d1, List.length_cons, List.length_nil, ones_cons, vone_d, ones_nil, storeP_cells, Nat.reduceAdd, Nat.reduceLT, setCells_1, List.set_cons_succ, List.set_cons_zero, storePR_some, put_none, blockC_nrm, restrict_cons, restrict_nil, f_scan_scanner_skip_l0_in]
          exact ih'
      -- no further
      have stop : ∀ (h0 : deep = 0) (hbk : blk c = false) (p1 : pre [40, 42] (c :: L) = false),
          SkRes id s a H lo (true, a) (thenC pg (blockC 0 [2, 3] (f_scan_scanner_skip_l0 pg (.ptr id 0) (.d (.i .i64 (frm : Nat))) (.d (.i .i64 (deep : Nat))) H lo)) f_scan_scanner_skip_R1) := by
        intro h0 hbk p1
        subst h0
        have h2 : ((0 : Int) < ((0 : Nat) : Int)) = False := by simp
        have hbk : ((0 : Int) ≤ ixN c [9, 10, 13, 32]) = False := by rw [hb, hbk]; simp
        rw [p1] at hh1
        rw [f_scan_scanner_skip_l0_eq]
        refine .stay hH ⟨.ret, ?_⟩
        simp only [reduceCtorEq, f_scan_scanner_skip_B0, keepV_ptr, keepV_d, Int.cast_ofNat_Int, exL_seq, exL_opsD, runOpsD_n, evalK_mov, rd_t, get_eq, readV_ptr, spent_t, opDC_same, putD_ptr, putC_some, evalK_nilCheck, okS_some, evalK_fieldAddr, faV_ptr, Nat.zero_add, evalK_load, loadV_ptr, hH, cellV_1, List.getElem?_cons_succ, List.getElem?_cons_zero, Option.map_some, copy1_d, putD_d, get_ne, Nat.add_zero, evalK_lenS, readV_d, lenS_s, evalK_bin, isC_t, Bool.or_self, Nat.reduceEqDiff, bin_lss, h1, decide_true, opDC_serial, runOpsD_nil, thenC_nrm, exL_cond, condC_b, ↓reduceIte, exL_skip, exL_block, exL_ops, runOps_n, opC_ok, put_ptr, evalK_call, List.map_cons, rd_c, List.map_nil, allLeave_cons, leaves_ptr, leaves_d, allLeave_nil, Bool.and_self, eCall_f, hh1, callC_some, spentAll_cons, spent_c, spentAll_nil, hm, put_d, rd_mv, takeV_d, spent_mv, runOps_nil, Bool.false_eq_true, isC_c, Bool.or_true, bin_gtr, Int.reduceLT, decide_false, runOps_g, wantG_bt, wantC_b, put_tup, evalK_pick, readV_tup, pickV_f, runOpsD_g, wantG_bf, Bool.not_false, wantDC_b, evalK_index, hix, hi, bin_geq, hbk, pickV_b, exL_ret, blockC_ret, thenC_ret]
        exact ⟨_, by simp, rfl⟩
      match L, hdr, hh1, hh2 with
      | [], hdr, hh1, hh2 =>
        have p1 : pre [40, 42] [c] = false := pre21
        have p2 : pre [42, 41] [c] = false := pre21
        by_cases hd : deep = 0
        · cases hbk : blk c with
          | true => 
            have := go1 (.inr hbk) p1 (fun _ => p2)
            simpa [sk, hd, hbk] using this
          | false =>
            have := stop hd hbk p1
            simpa [sk, hd, hbk] using this
        · have := go1 (.inl (by omega)) p1 (fun _ => p2)
          simpa [sk, hd] using this
      | d :: l, hdr, hh1, hh2 =>
        obtain ⟨_, hdr2, hlt2⟩ := drop_c hdr
        have hH2 : (setAt H id (sc s (a + 2)))[id]? = some (sc s (a + 2)) := setAt_get hH
        by_cases c1 : c = 40 ∧ d = 42
        · have ih' := ih (a + 2) (deep + 1) (if deep = 0 then a else frm) (setAt H id (sc s (a + 2))) (min lo id) (by omega) (by omega) (by omega) hH2 (by simp only [setAt_length]; omega)
          rw [hdr2] at ih'
          have p1 : pre [40, 42] (c :: d :: l) = true := by rw [pre2]; simpa using c1
          rw [p1] at hh1
          refine SkRes.step (a2 := a + 2) ?_
          rw [f_scan_scanner_skip_l0_eq, sk, if_pos c1]
          by_cases hd : deep = 0
          · have h2 : (((deep : Nat) : Int) = 0) = True := by rw [eq_iff_iff]; simp; omega
            rw [if_pos hd] at ih' ⊢
            simp only [f_scan_scanner_skip_B0, keepV_ptr, keepV_d, exL_seq, exL_opsD, runOpsD_n, evalK_mov, rd_t, get_eq, readV_ptr, spent_t, opDC_same, putD_ptr, putC_some, evalK_nilCheck, okS_some, evalK_fieldAddr, faV_ptr, Nat.zero_add, evalK_load, loadV_ptr, hH, cellV_1, List.getElem?_cons_succ, List.getElem?_cons_zero, Option.map_some, copy1_d, putD_d, reduceCtorEq, get_ne, Nat.add_zero, evalK_lenS, readV_d, lenS_s, evalK_bin, isC_t, Bool.or_self, Nat.reduceEqDiff, bin_lss, h1, decide_true, opDC_serial, runOpsD_nil, thenC_nrm, exL_cond, condC_b, ↓reduceIte, exL_skip, exL_block, exL_ops, runOps_n, opC_ok, put_ptr, evalK_call, List.map_cons, rd_c, List.map_nil, allLeave_cons, leaves_ptr, leaves_d, allLeave_nil, Bool.and_self, eCall_f, hh1, callC_some, spentAll_cons, spent_c, spentAll_nil, hm, put_d, rd_mv, takeV_d, spent_mv, runOps_nil, isC_c, Bool.or_true, bin_eql, h2, bin_add, hd1, hw2, evalK_store, storeV_P, one_i, cells_d1, List.length_cons, List.length_nil, ones_cons, vone_d, ones_nil, storeP_cells, Nat.reduceAdd, Nat.reduceLT, setCells_1, List.set_cons_succ, List.set_cons_zero, storePR_some, put_none, blockC_nrm, restrict_cons, restrict_nil, f_scan_scanner_skip_l0_in]
            exact ih'
          · have h2 : (((deep : Nat) : Int) = 0) = False := by rw [eq_iff_iff]; simp; omega
            rw [if_neg hd] at ih' ⊢
            simp only [f_scan_scanner_skip_B0, keepV_ptr, keepV_d, exL_seq, exL_opsD, runOpsD_n, evalK_mov, rd_t, get_eq, readV_ptr, spent_t, opDC_same, putD_ptr, putC_some, evalK_nilCheck, okS_some, evalK_fieldAddr, faV_ptr, Nat.zero_add, evalK_load, loadV_ptr, hH, cellV_1, List.getElem?_cons_succ, List.getElem?_cons_zero, Option.map_some, copy1_d, putD_d, reduceCtorEq, get_ne, Nat.add_zero, evalK_lenS, readV_d, lenS_s, evalK_bin, isC_t, Bool.or_self, Nat.reduceEqDiff, bin_lss, h1, decide_true, opDC_serial, runOpsD_nil, thenC_nrm, exL_cond, condC_b, ↓reduceIte, exL_skip, exL_block, exL_ops, runOps_n, opC_ok, put_ptr, evalK_call, List.map_cons, rd_c, List.map_nil, allLeave_cons, leaves_ptr, leaves_d, allLeave_nil, Bool.and_self, eCall_f, hh1, callC_some, spentAll_cons, spent_c, spentAll_nil, hm, put_d, rd_mv, takeV_d, spent_mv, runOps_nil, isC_c, Bool.or_true, bin_eql, h2, decide_false, Bool.false_eq_true, bin_add, hd1, hw2, evalK_store, storeV_P, one_i, cells_d1, List.length_cons, List.length_nil, ones_cons, vone_d, ones_nil, storeP_cells, Nat.reduceAdd, Nat.reduceLT, setCells_1, List.set_cons_succ, List.set_cons_zero, storePR_some, put_none, blockC_nrm, restrict_cons, restrict_nil, f_scan_scanner_skip_l0_in]
            exact ih'
        · have p1 : pre [40, 42] (c :: d :: l) = false := by rw [pre2]; simpa using c1
          by_cases c2 : 0 < deep ∧ c = 42 ∧ d = 41
          · have ih' := ih (a + 2) (deep - 1) frm (setAt H id (sc s (a + 2))) (min lo id) (by omega) (by omega) (by omega) hH2 (by simp only [setAt_length]; omega)
            rw [hdr2] at ih'
            have hd2 : wr .i64 ((deep : Int) - 1) = ((deep - 1 : Nat) : Int) := by rw [wr_i64 (by omega) (by omega)]; omega
            have p2 : pre [42, 41] (c :: d :: l) = true := by rw [pre2]; simpa using c2.2
            have h2 : ((0 : Int) < ((deep : Nat) : Int)) = True := by rw [eq_iff_iff]; simp; omega
            rw [p1] at hh1
            rw [p2] at hh2
            refine SkRes.step (a2 := a + 2) ?_
            rw [f_scan_scanner_skip_l0_eq, sk, if_neg c1, if_pos c2]
            simp only [f_scan_scanner_skip_B0, keepV_ptr, keepV_d, exL_seq, exL_opsD, runOpsD_n, evalK_mov, rd_t, get_eq, readV_ptr, spent_t, opDC_same, putD_ptr, putC_some, evalK_nilCheck, okS_some, evalK_fieldAddr, faV_ptr, Nat.zero_add, evalK_load, loadV_ptr, hH, cellV_1, List.getElem?_cons_succ, List.getElem?_cons_zero, Option.map_some, copy1_d, putD_d, reduceCtorEq, get_ne, Nat.add_zero, evalK_lenS, readV_d, lenS_s, evalK_bin, isC_t, Bool.or_self, Nat.reduceEqDiff, bin_lss, h1, decide_true, opDC_serial, runOpsD_nil, thenC_nrm, exL_cond, condC_b, ↓reduceIte, exL_skip, exL_block, exL_ops, runOps_n, opC_ok, put_ptr, evalK_call, List.map_cons, rd_c, List.map_nil, allLeave_cons, leaves_ptr, leaves_d, allLeave_nil, Bool.and_self, eCall_f, hh1, callC_some, spentAll_cons, spent_c, spentAll_nil, hm, put_d, rd_mv, takeV_d, spent_mv, runOps_nil, Bool.false_eq_true, isC_c, Bool.or_true, bin_gtr, h2, runOps_g, wantG_bt, wantC_b, hh2, evalK_pick, pickV_b, bin_sub, hd2, bin_add, hw2, evalK_store, storeV_P, one_i, cells_d1, List.length_cons, List.length_nil, ones_cons, vone_d, ones_nil, storeP_cells, Nat.reduceAdd, Nat.reduceLT, setCells_1, List.set_cons_succ, List.set_cons_zero, storePR_some, put_none, blockC_nrm, restrict_cons, restrict_nil, f_scan_scanner_skip_l0_in]
            exact ih'
          · have p2 : 0 < deep → pre [42, 41] (c :: d :: l) = false := fun h => by
              rw [pre2]; simp only [decide_eq_false_iff_not]; exact fun h' => c2 ⟨h, h'⟩
            rw [sk, if_neg c1, if_neg c2]
            by_cases c3 : 0 < deep ∨ blk c = true
            · rw [if_pos c3]
              exact go1 c3 p1 p2
            · rw [if_neg c3]
              exact stop (by omega) (by simpa using fun h => c3 (.inr h)) p1
theorem skip_call {s : List Nat} (hs : ∀ c ∈ s, c < 256) (hz : s.length ≤ 1000000) {id a : Nat} {H : List Obj} (ha : a ≤ s.length) (hH : H[id]? = some (sc s a)) :
    match sk 0 a a (s.drop a) with
    | (true, a') => ∃ sm lo, id ≤ lo ∧ lo ≤ H.length ∧ (a' = a ∨ lo ≤ id) ∧ callL pg 40 [.ptr id 0] H = some ⟨false, sm, .tup [], setAt H id (sc s a'), lo⟩
    | (false, p) => ∃ sm lo a', id ≤ lo ∧ lo ≤ H.length ∧ (a' = a ∨ lo ≤ id) ∧ callL pg 40 [.ptr id 0] H = some ⟨true, sm, .ifc 66 (.d (.agg [.i .i64 (p : Nat), .i .i64 30])), setAt H id (sc s a'), lo⟩ := by
  have hid : id < H.length := (List.getElem?_eq_some_iff.1 hH).1
  have hl := skip_loop hs hz (s.length - a) a 0 a H H.length (Nat.le_refl _) ha (by omega) hH (Nat.le_refl _)
  rw [callL_fn (fn := f_scan_scanner_skip) rfl rfl]
  generalize hr : sk 0 a a (s.drop a) = r at hl
  obtain ⟨b, p⟩ := r
  have hz0 : ((0 : Nat) : Int) = 0 := rfl
  rw [hz0] at hl
  cases b with
  | true =>
    obtain ⟨x, e, lo', h1, h2, h3, h4, h5⟩ := hl
    obtain ⟨sm, hlv⟩ := leave_sc (pan := false) (v := .tup []) (e := e) (lo := lo') (o := sc s p) rfl rfl (fun _ => rfl) (by
      rcases h3 with h | h
      · left; rw [h]; exact setAt_self hH
      · right; exact h) hid
    refine ⟨sm, lo', by omega, by omega, h3, ?_⟩
    simp only [f_scan_scanner_skip, argEnv_cons, Nat.zero_add, argEnv_nil, exL_seq, exL_ops, runOps_n, evalK_mov, rd_t, get_eq, readV_ptr, spent_t, opC_ok, put_ptr, evalK_nilCheck, okS_some, evalK_fieldAddr, faV_ptr, evalK_load, loadV_ptr, hH, cellV_1, List.getElem?_cons_succ, List.getElem?_cons_zero, Option.map_some, copy1_d, put_d, readV_d, rd_c, spent_c, runOps_nil, thenC_nrm, exL_block, f_scan_scanner_skip_l0_in, reduceCtorEq, get_ne, keepV_ptr, Nat.reduceEqDiff, keepV_d]
    rw [h5]
    rcases h1 with rfl | rfl
    · simp only [finC_nrm, resultVs_nil, leaveC_0]; exact hlv
    · simp only [finC_ret, resultVs_nil, leaveC_0]; exact hlv
  | false =>
    obtain ⟨e, lo', a', h1, h2, h3, h5⟩ := hl
    obtain ⟨sm, hlv⟩ := leave_sc (pan := true) (v := .ifc 66 (.d (.agg [.i .i64 (p : Nat), .i .i64 30]))) (e := e) (lo := lo') (o := sc s a') rfl rfl (fun _ => rfl) (by
      rcases h3 with h | h
      · left; rw [h]; exact setAt_self hH
      · right; exact h) hid
    refine ⟨sm, lo', a', by omega, by omega, h3, ?_⟩
    simp only [f_scan_scanner_skip, argEnv_cons, Nat.zero_add, argEnv_nil, exL_seq, exL_ops, runOps_n, evalK_mov, rd_t, get_eq, readV_ptr, spent_t, opC_ok, put_ptr, evalK_nilCheck, okS_some, evalK_fieldAddr, faV_ptr, evalK_load, loadV_ptr, hH, cellV_1, List.getElem?_cons_succ, List.getElem?_cons_zero, Option.map_some, copy1_d, put_d, readV_d, rd_c, spent_c, runOps_nil, thenC_nrm, exL_block, f_scan_scanner_skip_l0_in, reduceCtorEq, get_ne, keepV_ptr, Nat.reduceEqDiff, keepV_d]
    rw [h5]
    simp only [finC_pan]; exact hlv
end W

set_option linter.unusedSimpArgs false
set_option linter.unusedVariables false
namespace W
open Go (IntKind BinOp UnOp)
set_option maxRecDepth 20000
theorem index_loop {L : List (List Nat)} {t : List Nat} (hz : L.length ≤ 1000000) {H : List Obj} :
    ∀ (k i : Nat), L.length - i = k → i ≤ L.length → (∀ j, j < i → L[j]? ≠ some t) →
      ∃ e x r, (x = .nrm ∨ x = .ret) ∧ (decide ((0 : Int) ≤ r) = decide (t ∈ L)) ∧ get 4 e = .d (.i .i64 r) ∧
        thenC pg (blockC 0 [] (f_slices_Index___string_string__l0 pg (.d (slD D.s L)) (.d (.s t)) (.d (.i .i64 (L.length : Nat))) (.d (.i .i64 (i : Nat))) H H.length)) f_slices_Index___string_string__R1 = some (x, ⟨e, H, H.length⟩) := by
  intro k
  induction k with
  | zero =>
    intro i hk hi hno
    obtain rfl : i = L.length := by omega
    have h1 : ((L.length : Int) < (L.length : Int)) = False := by simp
    have hnm : t ∉ L := by
      intro h
      obtain ⟨j, hj⟩ := List.getElem?_of_mem h
      have : j < L.length := (List.getElem?_eq_some_iff.1 hj).1
      exact hno j this hj
    rw [f_slices_Index___string_string__l0_eq]
    simp only [f_slices_Index___string_string__B0, keepV_d, exL_seq, exL_ops, runOps_n, evalK_bin, isC_t, Bool.or_self, rd_t, reduceCtorEq, get_ne, Nat.reduceEqDiff, get_eq, readV_d, bin_lss, h1, decide_false, okS_some, opC_ok, put_d, runOps_nil, thenC_nrm, exL_cond, condC_b, Bool.false_eq_true, ↓reduceIte, exL_exit, thenC_exit, blockC_exit, restrict_nil, f_slices_Index___string_string__R1, Int.reduceNeg, evalK_mov, rd_c, spent_c, exL_ret]
    exact ⟨_, _, -1, .inr rfl, by simp [hnm], rfl, rfl⟩
  | succ k ih =>
    intro i hk hi hno
    have h1 : ((i : Int) < (L.length : Int)) = True := by rw [eq_iff_iff]; simp; omega
    have hlt : i < L.length := by omega
    have hia : iaV (.d (slD D.s L)) (.d (.i .i64 (i : Int))) 1 none = some (.cp (.s L[i])) := iaV_slD (fun _ => rfl) (by omega) (by simp)
    have hw : wr .i64 ((i : Int) + 1) = ((i + 1 : Nat) : Int) := by rw [wr_i64 (by omega) (by omega)]; omega
    rw [f_slices_Index___string_string__l0_eq]
    by_cases he : t = L[i]
    · have h2 : (t = L[i]) = True := by simp [he]
      simp only [f_slices_Index___string_string__B0, keepV_d, exL_seq, exL_ops, runOps_n, evalK_bin, isC_t, Bool.or_self, rd_t, reduceCtorEq, get_ne, Nat.reduceEqDiff, get_eq, readV_d, bin_lss, h1, decide_true, okS_some, opC_ok, put_d, runOps_nil, thenC_nrm, exL_cond, condC_b, ↓reduceIte, exL_skip, exL_block, evalK_mov, spent_t, evalK_indexAddr, hia, put_cp, evalK_load, readV_cp, loadV_cp_s, bin_seql, h2, exL_ret, blockC_ret, thenC_ret, f_slices_Index___string_string__R1, Int.reduceNeg]
      exact ⟨_, _, (i : Int), .inr rfl, by rw [he]; simp, rfl, rfl⟩
    · have h2 : (t = L[i]) = False := by simp [he]
      have ih' := ih (i + 1) (by omega) (by omega) (fun j hj => by
        rcases Nat.lt_or_ge j i with h | h
        · exact hno j h
        · obtain rfl : j = i := by omega
          rw [List.getElem?_eq_getElem hlt]
          intro h'; exact he (Option.some.inj h').symm)
      simp only [f_slices_Index___string_string__B0, keepV_d, exL_seq, exL_ops, runOps_n, evalK_bin, isC_t, Bool.or_self, rd_t, reduceCtorEq, get_ne, Nat.reduceEqDiff, get_eq, readV_d, bin_lss, h1, decide_true, okS_some, opC_ok, put_d, runOps_nil, thenC_nrm, exL_cond, condC_b, ↓reduceIte, exL_skip, exL_block, evalK_mov, spent_t, evalK_indexAddr, hia, put_cp, evalK_load, readV_cp, loadV_cp_s, bin_seql, h2, decide_false, Bool.false_eq_true, blockC_nrm, restrict_cons, restrict_nil, isC_c, Bool.or_true, rd_c, bin_add, hw, f_slices_Index___string_string__l0_in]
      exact ih'
theorem index_call {L : List (List Nat)} {t : List Nat} (hz : L.length ≤ 1000000) {H : List Obj} :
    ∃ r : Int, decide ((0 : Int) ≤ r) = decide (t ∈ L) ∧ callL pg 74 [.d (slD D.s L), .d (.s t)] H = some ⟨false, true, .d (.i .i64 r), H, H.length⟩ := by
  obtain ⟨e, x, r, hx, h1, h2, h3⟩ := index_loop (t := t) hz (H := H) L.length 0 rfl (by omega) (by simp)
  refine ⟨r, h1, ?_⟩
  rw [callL_fn (fn := f_slices_Index___string_string_) rfl rfl]
  have hz0 : ((0 : Nat) : Int) = 0 := rfl
  rw [hz0] at h3
  simp only [f_slices_Index___string_string_, argEnv_cons, Nat.zero_add, Nat.reduceAdd, argEnv_nil, exL_seq, exL_ops, runOps_n, evalK_mov, rd_c, spent_c, opC_ok, put_d, runOps_nil, thenC_nrm, rd_t, reduceCtorEq, get_ne, get_eq, readV_d, spent_t, evalK_lenL, lenL_slD, okS_some, exL_block, f_slices_Index___string_string__l0_in, keepV_d, Nat.reduceEqDiff]
  rw [h3]
  rcases hx with rfl | rfl
  all_goals simp only [finC_nrm, resultVs_cons, resultV_t, h2, ownV_d, resultVs_nil, consO_some, leaveC_1, leaves_d, ref_d, settle_d, leave_pure, finC_ret]
  all_goals rfl
theorem contains_call {t : List Nat} {H : List Obj} : callL pg 62 [.d (.sl (KW.map D.s)), .d (.s t)] H = some ⟨false, true, .d (.b (decide (t ∈ KW))), H, H.length⟩ := by
  obtain ⟨r, h1, h2⟩ := index_call (L := KW) (t := t) (by decide) (H := H)
  have hk : slD D.s KW = .sl (KW.map D.s) := rfl
  rw [hk] at h2
  rw [callL_fn (fn := f_slices_Contains___string_string_) rfl rfl]
  simp only [f_slices_Contains___string_string_, argEnv_cons, Nat.zero_add, Nat.reduceAdd, argEnv_nil, exL_seq, exL_ops, runOps_n, evalK_mov, rd_c, spent_c, opC_ok, put_d, runOps_nil, thenC_nrm, rd_mv, reduceCtorEq, get_ne, get_eq, takeV_d, spent_mv, Nat.reduceEqDiff, evalK_call, List.map_cons, List.map_nil, allLeave_cons, leaves_d, allLeave_nil, Bool.and_self, eCall_f, h2, callC_some, spentAll_cons, spentAll_nil, Nat.min_self, evalK_bin, isC_t, isC_c, Bool.or_true, rd_t, readV_d, bin_geq, h1, okS_some, spent_t, exL_ret, finC_ret, resultVs_cons, resultV_t, ownV_d, resultVs_nil, consO_some, leaveC_1, ref_d, settle_d, leave_pure]
  all_goals rfl
def tok (k p e : Int) (t : List Nat) (n : Int) : D := .agg [.i .i64 k, .i .i64 p, .i .i64 e, .s t, .i .i32 n]
inductive Sy where
  | ok (k : Int) (t : List Nat) (n : Int) (a : Nat)
  | bad (e : Int)
def MRes (id : Nat) (s : List Nat) (a : Nat) (H : List Obj) (r : Sy) (X : Option Cr) : Prop :=
  match r with
  | .ok k t n a' => ∃ sm lo, id ≤ lo ∧ lo ≤ H.length ∧ (a' = a ∨ lo ≤ id) ∧ X = some ⟨false, sm, .d (tok k 0 0 t n), setAt H id (sc s a'), lo⟩
  | .bad e => ∃ sm lo a', id ≤ lo ∧ lo ≤ H.length ∧ (a' = a ∨ lo ≤ id) ∧ X = some ⟨true, sm, .ifc 66 (.d (.agg [.i .i64 (a : Nat), .i .i64 e])), setAt H id (sc s a'), lo⟩
theorem MRes.good {id : Nat} {s : List Nat} {a a' : Nat} {H : List Obj} {k n : Int} {t : List Nat} {e : Env} {lo : Nat} {X : Option Cr} (hid : id < H.length) (hH : H[id]? = some (sc s a)) (h1 : id ≤ lo) (h2 : lo ≤ H.length) (h3 : a' = a ∨ lo ≤ id)
    (h : X = leave H false (.d (tok k 0 0 t n)) ⟨e, setAt H id (sc s a'), lo⟩) : MRes id s a H (.ok k t n a') X := by
  obtain ⟨sm, hlv⟩ := leave_sc (pan := false) (v := .d (tok k 0 0 t n)) (e := e) (lo := lo) (o := sc s a') rfl rfl (fun _ => rfl) (by
      rcases h3 with h | h
      · left; rw [h]; exact setAt_self hH
      · right; exact h) hid
  exact ⟨sm, lo, h1, h2, h3, h.trans hlv⟩
theorem MRes.worse {id : Nat} {s : List Nat} {a a' : Nat} {H : List Obj} {x : Int} {e : Env} {lo : Nat} {X : Option Cr} (hid : id < H.length) (hH : H[id]? = some (sc s a)) (h1 : id ≤ lo) (h2 : lo ≤ H.length) (h3 : a' = a ∨ lo ≤ id)
    (h : X = leave H true (.ifc 66 (.d (.agg [.i .i64 (a : Nat), .i .i64 x]))) ⟨e, setAt H id (sc s a'), lo⟩) : MRes id s a H (.bad x) X := by
  obtain ⟨sm, hlv⟩ := leave_sc (pan := true) (v := .ifc 66 (.d (.agg [.i .i64 (a : Nat), .i .i64 x]))) (e := e) (lo := lo) (o := sc s a') rfl rfl (fun _ => rfl) (by
      rcases h3 with h | h
      · left; rw [h]; exact setAt_self hH
      · right; exact h) hid
  exact ⟨sm, lo, a', h1, h2, h3, h.trans hlv⟩
def wordS (s : List Nat) (a : Nat) : Sy :=
  if 32 < run cNm (s.drop a) then .bad 34
  else if (s.drop a).take (run cNm (s.drop a)) ∈ KW then .ok 6 ((s.drop a).take (run cNm (s.drop a))) 0 (a + run cNm (s.drop a))
  else .ok 1 ((s.drop a).take (run cNm (s.drop a))) 0 (a + run cNm (s.drop a))
theorem word_call {s : List Nat} (hz : s.length ≤ 1000000) {id a : Nat} {H : List Obj} (ha : a ≤ s.length) (hH : H[id]? = some (sc s a)) : MRes id s a H (wordS s a) (callL pg 42 [.ptr id 0] H) := by
  have hid : id < H.length := (List.getElem?_eq_some_iff.1 hH).1
  obtain ⟨sm, lo, g1, g2, g3, hw⟩ := while_call (F := 61) (P := cNm) (fun c H => named_call) hz ha hH
  have hle := run_le cNm (s.drop a)
  rw [callL_fn (fn := f_scan_scanner_word) rfl rfl]
  have hm1 : min H.length lo = lo := by omega
  have hm2 : min lo H.length = lo := by omega
  have hlen : ((s.drop a).take (run cNm (s.drop a))).length = run cNm (s.drop a) := by simp only [List.length_take]; omega
  have hc := fun (H : List Obj) => contains_call (t := (s.drop a).take (run cNm (s.drop a))) (H := H)
  have g3' : a + run cNm (s.drop a) = a ∨ lo ≤ id := by omega
  unfold wordS
  by_cases h1 : 32 < run cNm (s.drop a)
  · have e1 : ((32 : Int) < ((run cNm (s.drop a) : Nat) : Int)) = True := by rw [eq_iff_iff]; simp; omega
    rw [if_pos h1]
    refine MRes.worse hid hH g1 g2 g3' ?_ (e := ?_)
    rotate_left
    · simp only [f_scan_scanner_word, argEnv_cons, Nat.zero_add, argEnv_nil, exL_seq, exL_ops, runOps_n, evalK_allocL, List.map_cons, List.map_nil, opC_ok, put_box, killLp_cons, killV_ptr, killLp_nil, runOps_nil, thenC_nrm, evalK_mov, rd_t, reduceCtorEq, get_ne, get_eq, readV_ptr, spent_t, put_ptr, evalK_nilCheck, okS_some, evalK_fieldAddr, faV_ptr, evalK_load, loadV_ptr, hH, cellV_1, List.getElem?_cons_succ, List.getElem?_cons_zero, Option.map_some, copy1_d, put_d, readV_d, rd_mv, takeV_ptr, spent_mv, evalK_call, rd_f, allLeave_cons, leaves_ptr, leaves_fn, oks_nil, Bool.and_self, allLeave_nil, eCall_f, hw, callC_some, spentAll_cons, spent_f, spentAll_nil, hm1, takeV_d, exL_block, evalK_lenS, lenS_s, hlen, evalK_bin, isC_t, isC_c, Bool.or_true, rd_c, bin_gtr, e1, decide_true, exL_cond, condC_b, ↓reduceIte, Nat.reduceEqDiff, leaves_d, fail_call, setAt_length, spent_c, hm2, opC_pan, blockC_pan, thenC_pan, finC_pan]
      rfl
  · have e1 : ((32 : Int) < ((run cNm (s.drop a) : Nat) : Int)) = False := by rw [eq_iff_iff]; simp; omega
    rw [if_neg h1]
    by_cases h2 : (s.drop a).take (run cNm (s.drop a)) ∈ KW
    · rw [if_pos h2]
      refine MRes.good hid hH g1 g2 g3' ?_ (e := ?_)
      rotate_left
      · simp only [f_scan_scanner_word, argEnv_cons, Nat.zero_add, argEnv_nil, exL_seq, exL_ops, runOps_n, evalK_allocL, List.map_cons, List.map_nil, opC_ok, put_box, killLp_cons, killV_ptr, killLp_nil, runOps_nil, thenC_nrm, evalK_mov, rd_t, reduceCtorEq, get_ne, get_eq, readV_ptr, spent_t, put_ptr, evalK_nilCheck, okS_some, evalK_fieldAddr, faV_ptr, evalK_load, loadV_ptr, hH, cellV_1, List.getElem?_cons_succ, List.getElem?_cons_zero, Option.map_some, copy1_d, put_d, readV_d, rd_mv, takeV_ptr, spent_mv, evalK_call, rd_f, allLeave_cons, leaves_ptr, leaves_fn, oks_nil, Bool.and_self, allLeave_nil, eCall_f, hw, callC_some, spentAll_cons, spent_f, spentAll_nil, hm1, takeV_d, exL_block, evalK_lenS, lenS_s, hlen, evalK_bin, isC_t, isC_c, Bool.or_true, rd_c, bin_gtr, e1, decide_false, exL_cond, condC_b, Bool.false_eq_true, ↓reduceIte, kw_call, setAt_length, hm2, Nat.reduceEqDiff, leaves_d, hc, h2, decide_true, evalK_build, one_i, cells_d1, vone_d, List.length_cons, List.length_nil, Nat.reduceAdd, Nat.reduceLT, fillC_1, List.set_cons_zero, one_s, List.set_cons_succ, fillC_nil, aggO_some, mkAgg_eq, allD_d, allD_nil, consD_some, aggV_some, evalK_store, readV_box, storeV_lp, cells_agg, ones_cons, ones_nil, storeB_box, setCells_all, storeR_some, put_none, exL_ret, blockC_ret, thenC_ret, finC_ret, resultVs_cons, resultV_cell, resC_box, Nat.reduceLeDiff, boxV_A, List.drop_zero, List.take_succ_cons, List.take_zero, resultVs_nil, consO_some, leaveC_1]
        rfl
    · rw [if_neg h2]
      refine MRes.good hid hH g1 g2 g3' ?_ (e := ?_)
      rotate_left
      · simp only [f_scan_scanner_word, argEnv_cons, Nat.zero_add, argEnv_nil, exL_seq, exL_ops, runOps_n, evalK_allocL, List.map_cons, List.map_nil, opC_ok, put_box, killLp_cons, killV_ptr, killLp_nil, runOps_nil, thenC_nrm, evalK_mov, rd_t, reduceCtorEq, get_ne, get_eq, readV_ptr, spent_t, put_ptr, evalK_nilCheck, okS_some, evalK_fieldAddr, faV_ptr, evalK_load, loadV_ptr, hH, cellV_1, List.getElem?_cons_succ, List.getElem?_cons_zero, Option.map_some, copy1_d, put_d, readV_d, rd_mv, takeV_ptr, spent_mv, evalK_call, rd_f, allLeave_cons, leaves_ptr, leaves_fn, oks_nil, Bool.and_self, allLeave_nil, eCall_f, hw, callC_some, spentAll_cons, spent_f, spentAll_nil, hm1, takeV_d, exL_block, evalK_lenS, lenS_s, hlen, evalK_bin, isC_t, isC_c, Bool.or_true, rd_c, bin_gtr, e1, decide_false, exL_cond, condC_b, Bool.false_eq_true, ↓reduceIte, kw_call, setAt_length, hm2, Nat.reduceEqDiff, leaves_d, hc, h2, exL_skip, blockC_nrm, restrict_cons, keepV_box, keepV_d, restrict_nil, evalK_build, one_i, cells_d1, vone_d, List.length_cons, List.length_nil, Nat.reduceAdd, Nat.reduceLT, fillC_1, List.set_cons_zero, one_s, List.set_cons_succ, fillC_nil, aggO_some, mkAgg_eq, allD_d, allD_nil, consD_some, aggV_some, evalK_store, readV_box, storeV_lp, cells_agg, ones_cons, ones_nil, storeB_box, setCells_all, storeR_some, put_none, exL_ret, finC_ret, resultVs_cons, resultV_cell, resC_box, Nat.reduceLeDiff, boxV_A, List.drop_zero, List.take_succ_cons, List.take_zero, resultVs_nil, consO_some, leaveC_1]
        rfl
end W

set_option linter.unusedSimpArgs false
set_option linter.unusedVariables false
namespace W
open Go (IntKind BinOp UnOp)
set_option maxRecDepth 20000
def dg (c : Nat) : Nat := if c ≤ 57 then c - 48 else c - 55
def pu (b mx : Nat) : Nat → List Nat → Option Nat
  | n, [] => some n
  | n, c :: l => if b ≤ dg c then none else if mx < n * b + dg c then none else pu b mx (n * b + dg c) l
theorem lower_hex {c : Nat} (h1 : 65 ≤ c) (h2 : c ≤ 70) {H : List Obj} : callL pg 85 [.d (.i .u8 (c : Nat))] H = some ⟨false, true, .d (.i .u8 ((c + 32 : Nat) : Int)), H, H.length⟩ := by
  rw [callL_fn (fn := f_internal_strconv_lower) rfl rfl]
  have : c = 65 ∨ c = 66 ∨ c = 67 ∨ c = 68 ∨ c = 69 ∨ c = 70 := by omega
  rcases this with rfl | rfl | rfl | rfl | rfl | rfl
  all_goals simp only [f_internal_strconv_lower, Int.cast_ofNat_Int, argEnv_cons, Nat.zero_add, argEnv_nil, exL_seq, exL_ops, runOps_n, evalK_mov, rd_c, spent_c, opC_ok, put_d, runOps_nil, thenC_nrm, rd_t, reduceCtorEq, get_ne, get_eq, readV_d, spent_t, evalK_bin, isC_t, isC_c, Bool.or_true, bin_or, okS_some, exL_ret, finC_ret, resultVs_cons, resultV_t, ownV_d, resultVs_nil, consO_some, leaveC_1, leaves_d, ref_d, settle_d, leave_pure, Nat.reduceAdd]
  all_goals rfl
def PuRes (H : List Obj) (r : Option Nat) (X : Option (Ex × St)) : Prop :=
  match r with
  | some u => ∃ e, get 6 e = .d (.i .u64 (u : Nat)) ∧ get 7 e = .d .ni ∧ X = some (.ret, ⟨e, H, H.length⟩)
  | none => ∃ e z er, (er = 1 ∨ er = 2) ∧ get 6 e = .d (.i .u64 z) ∧ get 7 e = .ifc 110 (.d (.i .i64 er)) ∧ X = some (.ret, ⟨e, H, H.length⟩)
theorem pu_loop {s s0 : List Nat} (hs : ∀ c ∈ s, cHx c = true) (hz : s.length ≤ 1000000) {b mx ct : Nat} (hb : b = 10 ∨ b = 16) (hmx : mx ≤ 4294967295) (hct : mx < ct) {H : List Obj} :
    ∀ (k i n : Nat), s.length - i = k → i ≤ s.length → n ≤ mx →
      PuRes H (pu b mx n (s.drop i)) (thenC pg (blockC 3 [9, 12, 13] (f_internal_strconv_ParseUint_l0 pg (.d (.i .i64 (b : Nat))) (.d (.b false)) (.d (.s s0)) (.d (.i .u64 (ct : Nat))) (.d (.i .u64 (mx : Nat))) (.d (.b false)) (.d (.i .u64 (n : Nat))) (slV e8 s) (.d (.i .i64 (s.length : Nat))) (.d (.i .i64 (i : Nat))) H H.length)) f_internal_strconv_ParseUint_R1) := by
  intro k
  induction k with
  | zero =>
    intro i n hk hi hn
    obtain rfl : i = s.length := by omega
    have h1 : ((s.length : Int) < (s.length : Int)) = False := by simp
    rw [List.drop_length, f_internal_strconv_ParseUint_l0_eq]
    simp only [PuRes, pu, f_internal_strconv_ParseUint_B0, keepV_d, keepV_slV, exL_seq, exL_ops, runOps_n, evalK_bin, isC_t, Bool.or_self, rd_t, Nat.reduceEqDiff, get_ne, get_eq, readV_d, bin_lss, h1, decide_false, okS_some, opC_ok, put_d, runOps_nil, thenC_nrm, exL_cond, condC_b, Bool.false_eq_true, ↓reduceIte, exL_exit, thenC_exit, blockC_exit, restrict_cons, restrict_nil, f_internal_strconv_ParseUint_R1, evalK_mov, spent_t, runOps_g, wantG_bt, wantC_b, put_tup, evalK_pick, readV_tup, rd_c, pickV_f, exL_skip, spent_c, exL_ret]
    exact ⟨_, rfl, rfl, rfl⟩
  | succ k ih =>
    intro i n hk hi hn
    have h1 : ((i : Int) < (s.length : Int)) = True := by rw [eq_iff_iff]; simp; omega
    have hlt : i < s.length := by omega
    obtain ⟨c, hget⟩ : ∃ c, s[i]? = some c := ⟨s[i], by simp⟩
    have hdr : s.drop i = c :: s.drop (i + 1) := by
      rw [drop_cons hlt]
      congr 1
      have := List.getElem?_eq_getElem hlt
      rw [this] at hget
      exact Option.some.inj hget
    have hcx := hs c (List.mem_of_getElem? hget)
    have hcr : (48 ≤ c ∧ c ≤ 57) ∨ (65 ≤ c ∧ c ≤ 70) := by
      simp only [cHx, cDg, Bool.or_eq_true, Bool.and_eq_true, decide_eq_true_eq] at hcx
      exact hcx
    have hia : iaV (.d (slD e8 s)) (.d (.i .i64 (i : Int))) 1 none = some (.cp (e8 c)) := iaV_slD (fun _ => rfl) (by omega) (by simpa using hget)
    have hw : wr .i64 ((i : Int) + 1) = ((i + 1 : Nat) : Int) := by rw [wr_i64 (by omega) (by omega)]; omega
    have h95 : ((c : Int) = 95) = False := by rw [eq_iff_iff]; simp; omega
    have hd : dg c < 16 := by unfold dg; split <;> omega
    have hb8 : wr .u8 ((b : Nat) : Int) = (b : Int) := wr_u8 (by omega) (by omega)
    have hb64 : wr .u64 ((b : Nat) : Int) = (b : Int) := wr_u64 (by omega) (by omega)
    have hd64 : wr .u64 ((dg c : Nat) : Int) = (dg c : Int) := wr_u64 (by omega) (by omega)
    have hnb : n * b ≤ 4294967295 * 16 := Nat.mul_le_mul (by omega) (by omega)
    have hm64 : wr .u64 ((n : Int) * (b : Int)) = ((n * b : Nat) : Int) := by
      have e : ((n : Int) * (b : Int)) = ((n * b : Nat) : Int) := by push_cast; rfl
      rw [e]
      exact wr_u64 (by omega) (by omega)
    have ha64 : wr .u64 (((n * b : Nat) : Int) + (dg c : Int)) = ((n * b + dg c : Nat) : Int) := by rw [wr_u64 (by omega) (by omega)]; push_cast; rfl
    have hcut : ((ct : Int) ≤ (n : Int)) = False := by rw [eq_iff_iff]; simp; omega
    have hnn : n ≤ n * b := Nat.le_mul_of_pos_right n (by omega)
    have hlt2 : (((n * b + dg c : Nat) : Int) < ((n * b : Nat) : Int)) = False := by rw [eq_iff_iff]; simp; omega
    rw [hdr, f_internal_strconv_ParseUint_l0_eq, pu]
    rcases hcr with ⟨g1, g2⟩ | ⟨g1, g2⟩
    · have e1 : ((48 : Int) ≤ (c : Int)) = True := by rw [eq_iff_iff]; simp; omega
      have e2 : ((c : Int) ≤ 57) = True := by rw [eq_iff_iff]; simp; omega
      have e3 : wr .u8 ((c : Int) - 48) = (dg c : Int) := by rw [wr_u8 (by omega) (by omega)]; simp only [dg, g2, if_true]; omega
      by_cases q1 : b ≤ dg c
      · have f1 : ((b : Int) ≤ (dg c : Int)) = True := by rw [eq_iff_iff]; simp; omega
        rw [if_pos q1]
        simp only [PuRes, f_internal_strconv_ParseUint_B0, keepV_d, keepV_slV, exL_seq, exL_ops, runOps_n, evalK_bin, isC_t, Bool.or_self, rd_t, Nat.reduceEqDiff, get_ne, get_eq, readV_d, bin_lss, h1, decide_true, okS_some, opC_ok, put_d, runOps_nil, thenC_nrm, exL_cond, condC_b, ↓reduceIte, exL_skip, exL_block, evalK_indexAddr, readV_slV, hia, e8, put_cp, evalK_load, readV_cp, loadV_cp_i, evalK_mov, spent_t, rd_c, spent_c, isC_c, Bool.or_true, bin_eql, h95, decide_false, runOps_g, wantG_bt, wantC_b, Bool.false_eq_true, put_tup, evalK_pick, readV_tup, pickV_f, Bool.or_false, bin_leq, e1, e2, pickV_b, bin_sub, e3, blockC_nrm, restrict_cons, restrict_nil, evalK_conv, hb8, bin_geq, f1, evalK_mkIfc, mkIfcV_d, put_ifc, readV_ifc, exL_ret, thenC_ret, blockC_ret]
        exact ⟨_, 0, 2, .inr rfl, rfl, rfl, rfl⟩
      · have f1 : ((b : Int) ≤ (dg c : Int)) = False := by rw [eq_iff_iff]; simp; omega
        rw [if_neg q1]
        by_cases q2 : mx < n * b + dg c
        · have f2 : ((mx : Int) < ((n * b + dg c : Nat) : Int)) = True := by rw [eq_iff_iff]; simp; omega
          rw [if_pos q2]
          simp only [PuRes, f_internal_strconv_ParseUint_B0, keepV_d, keepV_slV, exL_seq, exL_ops, runOps_n, evalK_bin, isC_t, Bool.or_self, rd_t, Nat.reduceEqDiff, get_ne, get_eq, readV_d, bin_lss, h1, decide_true, okS_some, opC_ok, put_d, runOps_nil, thenC_nrm, exL_cond, condC_b, ↓reduceIte, exL_skip, exL_block, evalK_indexAddr, readV_slV, hia, e8, put_cp, evalK_load, readV_cp, loadV_cp_i, evalK_mov, spent_t, rd_c, spent_c, isC_c, Bool.or_true, bin_eql, h95, decide_false, runOps_g, wantG_bt, wantC_b, Bool.false_eq_true, put_tup, evalK_pick, readV_tup, pickV_f, Bool.or_false, bin_leq, e1, e2, pickV_b, bin_sub, e3, blockC_nrm, restrict_cons, restrict_nil, evalK_conv, hb8, bin_geq, f1, hcut, hb64, bin_mul, hm64, hd64, bin_add, ha64, hlt2, wantG_bf, Bool.not_false, bin_gtr, f2, evalK_mkIfc, mkIfcV_d, put_ifc, readV_ifc, exL_ret, thenC_ret, blockC_ret]
          exact ⟨_, _, 1, .inl rfl, rfl, rfl, rfl⟩
        · have f2 : ((mx : Int) < ((n * b + dg c : Nat) : Int)) = False := by rw [eq_iff_iff]; simp; omega
          rw [if_neg q2]
          have ih' := ih (i + 1) (n * b + dg c) (by omega) (by omega) (by omega)
          simp only [f_internal_strconv_ParseUint_B0, keepV_d, keepV_slV, exL_seq, exL_ops, runOps_n, evalK_bin, isC_t, Bool.or_self, rd_t, Nat.reduceEqDiff, get_ne, get_eq, readV_d, bin_lss, h1, decide_true, okS_some, opC_ok, put_d, runOps_nil, thenC_nrm, exL_cond, condC_b, ↓reduceIte, exL_skip, exL_block, evalK_indexAddr, readV_slV, hia, e8, put_cp, evalK_load, readV_cp, loadV_cp_i, evalK_mov, spent_t, rd_c, spent_c, isC_c, Bool.or_true, bin_eql, h95, decide_false, runOps_g, wantG_bt, wantC_b, Bool.false_eq_true, put_tup, evalK_pick, readV_tup, pickV_f, Bool.or_false, bin_leq, e1, e2, pickV_b, bin_sub, e3, blockC_nrm, restrict_cons, restrict_nil, evalK_conv, hb8, bin_geq, f1, hcut, hb64, bin_mul, hm64, hd64, bin_add, ha64, hlt2, wantG_bf, Bool.not_false, bin_gtr, f2, hw, f_internal_strconv_ParseUint_l0_in]
          exact ih'
    · have e1 : ((48 : Int) ≤ (c : Int)) = True := by rw [eq_iff_iff]; simp; omega
      have e2 : ((c : Int) ≤ 57) = False := by rw [eq_iff_iff]; simp; omega
      have lw := fun (H : List Obj) => lower_hex g1 g2 (H := H)
      have e4 : ((97 : Int) ≤ ((c + 32 : Nat) : Int)) = True := by rw [eq_iff_iff]; simp; omega
      have e5 : (((c + 32 : Nat) : Int) ≤ 122) = True := by rw [eq_iff_iff]; simp; omega
      have e6 : wr .u8 (((c + 32 : Nat) : Int) - 97) = ((c - 65 : Nat) : Int) := by rw [wr_u8 (by omega) (by omega)]; omega
      have e3 : wr .u8 (((c - 65 : Nat) : Int) + 10) = (dg c : Int) := by
        have : ¬ c ≤ 57 := by omega
        rw [wr_u8 (by omega) (by omega)]; simp only [dg, this, if_false]; omega
      by_cases q1 : b ≤ dg c
      · have f1 : ((b : Int) ≤ (dg c : Int)) = True := by rw [eq_iff_iff]; simp; omega
        rw [if_pos q1]
        simp only [PuRes, f_internal_strconv_ParseUint_B0, keepV_d, keepV_slV, exL_seq, exL_ops, runOps_n, evalK_bin, isC_t, Bool.or_self, rd_t, Nat.reduceEqDiff, get_ne, get_eq, readV_d, bin_lss, h1, decide_true, okS_some, opC_ok, put_d, runOps_nil, thenC_nrm, exL_cond, condC_b, ↓reduceIte, exL_skip, exL_block, evalK_indexAddr, readV_slV, hia, e8, put_cp, evalK_load, readV_cp, loadV_cp_i, evalK_mov, spent_t, rd_c, spent_c, isC_c, Bool.or_true, bin_eql, h95, decide_false, runOps_g, wantG_bt, wantC_b, Bool.false_eq_true, put_tup, evalK_pick, readV_tup, pickV_f, Bool.or_false, bin_leq, e1, e2, pickV_b, evalK_call, List.map_cons, List.map_nil, allLeave_cons, leaves_d, allLeave_nil, Bool.and_self, eCall_f, lw, callC_some, spentAll_cons, spentAll_nil, Nat.min_self, e4, e5, rd_mv, takeV_d, spent_mv, bin_sub, e6, bin_add, e3, blockC_nrm, restrict_cons, restrict_nil, evalK_conv, hb8, bin_geq, f1, evalK_mkIfc, mkIfcV_d, put_ifc, readV_ifc, exL_ret, thenC_ret, blockC_ret]
        exact ⟨_, 0, 2, .inr rfl, rfl, rfl, rfl⟩
      · have f1 : ((b : Int) ≤ (dg c : Int)) = False := by rw [eq_iff_iff]; simp; omega
        rw [if_neg q1]
        by_cases q2 : mx < n * b + dg c
        · have f2 : ((mx : Int) < ((n * b + dg c : Nat) : Int)) = True := by rw [eq_iff_iff]; simp; omega
          rw [if_pos q2]
          simp only [PuRes, f_internal_strconv_ParseUint_B0, keepV_d, keepV_slV, exL_seq, exL_ops, runOps_n, evalK_bin, isC_t, Bool.or_self, rd_t, Nat.reduceEqDiff, get_ne, get_eq, readV_d, bin_lss, h1, decide_true, okS_some, opC_ok, put_d, runOps_nil, thenC_nrm, exL_cond, condC_b, ↓reduceIte, exL_skip, exL_block, evalK_indexAddr, readV_slV, hia, e8, put_cp, evalK_load, readV_cp, loadV_cp_i, evalK_mov, spent_t, rd_c, spent_c, isC_c, Bool.or_true, bin_eql, h95, decide_false, runOps_g, wantG_bt, wantC_b, Bool.false_eq_true, put_tup, evalK_pick, readV_tup, pickV_f, Bool.or_false, bin_leq, e1, e2, pickV_b, evalK_call, List.map_cons, List.map_nil, allLeave_cons, leaves_d, allLeave_nil, Bool.and_self, eCall_f, lw, callC_some, spentAll_cons, spentAll_nil, Nat.min_self, e4, e5, rd_mv, takeV_d, spent_mv, bin_sub, e6, bin_add, e3, blockC_nrm, restrict_cons, restrict_nil, evalK_conv, hb8, bin_geq, f1, hcut, hb64, bin_mul, hm64, hd64, ha64, hlt2, wantG_bf, Bool.not_false, bin_gtr, f2, evalK_mkIfc, mkIfcV_d, put_ifc, readV_ifc, exL_ret, thenC_ret, blockC_ret]
          exact ⟨_, _, 1, .inl rfl, rfl, rfl, rfl⟩
        · have f2 : ((mx : Int) < ((n * b + dg c : Nat) : Int)) = False := by rw [eq_iff_iff]; simp; omega
          rw [if_neg q2]
          have ih' := ih (i + 1) (n * b + dg c) (by omega) (by omega) (by omega)
          simp only [f_internal_strconv_ParseUint_B0, keepV_d, keepV_slV, exL_seq, exL_ops, runOps_n, evalK_bin, isC_t, Bool.or_self, rd_t, Nat.reduceEqDiff, get_ne, get_eq, readV_d, bin_lss, h1, decide_true, okS_some, opC_ok, put_d, runOps_nil, thenC_nrm, exL_cond, condC_b, ↓reduceIte, exL_skip, exL_block, evalK_indexAddr, readV_slV, hia, e8, put_cp, evalK_load, readV_cp, loadV_cp_i, evalK_mov, spent_t, rd_c, spent_c, isC_c, Bool.or_true, bin_eql, h95, decide_false, runOps_g, wantG_bt, wantC_b, Bool.false_eq_true, put_tup, evalK_pick, readV_tup, pickV_f, Bool.or_false, bin_leq, e1, e2, pickV_b, evalK_call, List.map_cons, List.map_nil, allLeave_cons, leaves_d, allLeave_nil, Bool.and_self, eCall_f, lw, callC_some, spentAll_cons, spentAll_nil, Nat.min_self, e4, e5, rd_mv, takeV_d, spent_mv, bin_sub, e6, bin_add, e3, blockC_nrm, restrict_cons, restrict_nil, evalK_conv, hb8, bin_geq, f1, hcut, hb64, bin_mul, hm64, hd64, ha64, hlt2, wantG_bf, Bool.not_false, bin_gtr, f2, hw, f_internal_strconv_ParseUint_l0_in]
          exact ih'
theorem hx_ne {c : Nat} {l : List Nat} : (c :: l = ([] : List Nat)) = False := by simp
theorem slV_cons {c : Nat} {l : List Nat} : V.osl ((D.i .u8 (c : Nat)) :: l.map fun n : Nat => D.i .u8 n) = slV e8 (c :: l) := rfl
def PuC (H : List Obj) (r : Option Nat) (X : Option Cr) : Prop :=
  match r with
  | some u => X = some ⟨false, true, .tup [.d (.i .u64 (u : Nat)), .d .ni], H, H.length⟩
  | none => ∃ z er, (er = 1 ∨ er = 2) ∧ X = some ⟨false, true, .tup [.d (.i .u64 z), .ifc 110 (.d (.i .i64 er))], H, H.length⟩
theorem pu_call {s : List Nat} (hs : ∀ c ∈ s, cHx c = true) (hne : s ≠ []) (hz : s.length ≤ 1000000) {b bits mx : Nat} (hb : b = 10 ∧ bits = 31 ∧ mx = 2147483647 ∨ b = 16 ∧ bits = 32 ∧ mx = 4294967295 ∨ b = 16 ∧ bits = 8 ∧ mx = 255) {H : List Obj} :
    PuC H (pu b mx 0 s) (callL pg 75 [.d (.s s), .d (.i .i64 (b : Nat)), .d (.i .i64 (bits : Nat))] H) := by
  obtain ⟨c, l, rfl⟩ : ∃ c l, s = c :: l := by
    cases s with
    | nil => exact absurd rfl hne
    | cons c l => exact ⟨c, l, rfl⟩
  rw [callL_fn (fn := f_internal_strconv_ParseUint) rfl rfl]
  have key : ∀ (ct : Nat) X, mx < ct → (b = 10 ∨ b = 16) → mx ≤ 4294967295 → X = finC H false [.t 6, .t 7] (thenC pg (blockC 3 [9, 12, 13] (f_internal_strconv_ParseUint_l0 pg (.d (.i .i64 (b : Nat))) (.d (.b false)) (.d (.s (c :: l))) (.d (.i .u64 (ct : Nat))) (.d (.i .u64 (mx : Nat))) (.d (.b false)) (.d (.i .u64 0)) (slV e8 (c :: l)) (.d (.i .i64 ((c :: l).length : Nat))) (.d (.i .i64 0)) H H.length)) f_internal_strconv_ParseUint_R1) → PuC H (pu b mx 0 (c :: l)) X := by
    intro ct X hct hb hmx hX
    have hl := pu_loop (s0 := c :: l) hs hz hb hmx hct (H := H) (c :: l).length 0 0 (by omega) (by omega) (by omega)
    have hz0 : ((0 : Nat) : Int) = 0 := rfl
    rw [List.drop_zero, hz0] at hl
    subst hX
    generalize pu b mx 0 (c :: l) = r at hl
    cases r with
    | some u =>
      obtain ⟨e, h1, h2, h3⟩ := hl
      rw [h3]
      simp only [PuC, finC_ret, resultVs_cons, resultV_t, h1, ownV_d, h2, resultVs_nil, consO_some, leaveC_2, leaves_tup, oks_cons, ok_d, oks_nil, Bool.and_self, ref_tup, refs_cons, ref_d, refs_nil, Nat.max_self, settle_tup, leave_pure]
      all_goals rfl
    | none =>
      obtain ⟨e, z, er, h0, h1, h2, h3⟩ := hl
      rw [h3]
      refine ⟨z, er, h0, ?_⟩
      simp only [finC_ret, resultVs_cons, resultV_t, h1, ownV_d, h2, ownV_ifc, resultVs_nil, consO_some, leaveC_2, leaves_tup, oks_cons, ok_d, ok_ifc, oks_nil, Bool.and_self, ref_tup, refs_cons, ref_d, ref_ifc, refs_nil, Nat.max_self, settle_tup, leave_pure]
      all_goals rfl
  rcases hb with ⟨rfl, rfl, rfl⟩ | ⟨rfl, rfl, rfl⟩ | ⟨rfl, rfl, rfl⟩
  · refine key 1844674407370955162 _ (by omega) (by omega) (by omega) ?_
    have w1 : binV .shl .num true (.d (.i .u64 1)) (.d (.i .u64 (wr .u64 31))) = some (.d (.i .u64 2147483648)) := rfl
    have w2 : wr .u64 (2147483648 - 1) = 2147483647 := rfl
    simp only [f_internal_strconv_ParseUint, Int.cast_ofNat_Int, argEnv_cons, Nat.zero_add, Nat.reduceAdd, argEnv_nil, exL_seq, exL_ops, runOps_n, evalK_mov, rd_c, spent_c, opC_ok, put_d, runOps_nil, thenC_nrm, rd_t, reduceCtorEq, get_ne, get_eq, readV_d, spent_t, evalK_bin, isC_t, isC_c, Bool.or_true, bin_seql, hx_ne, decide_false, okS_some, exL_cond, condC_b, Bool.false_eq_true, ↓reduceIte, exL_skip, Nat.reduceEqDiff, bin_eql, Int.reduceEq, exL_block, Bool.or_false, bin_leq, Int.reduceLE, decide_true, runOps_g, wantG_bt, wantC_b, evalK_pick, pickV_b, blockC_nrm, restrict_cons, keepV_d, restrict_nil, bin_lss, Int.reduceLT, wantG_bf, Bool.not_false, bin_gtr, evalK_conv, w1, bin_sub, Int.reduceSub, evalK_bytes, List.map_cons, mkSl_cons, slV_cons, put_slV, evalK_lenL, readV_slV, lenL_slD, List.length_cons, f_internal_strconv_ParseUint_l0_in, keepV_slV]
    all_goals rfl
  · refine key 1152921504606846976 _ (by omega) (by omega) (by omega) ?_
    have w1 : binV .shl .num true (.d (.i .u64 1)) (.d (.i .u64 (wr .u64 32))) = some (.d (.i .u64 4294967296)) := rfl
    have w2 : wr .u64 (4294967296 - 1) = 4294967295 := rfl
    simp only [f_internal_strconv_ParseUint, Int.cast_ofNat_Int, argEnv_cons, Nat.zero_add, Nat.reduceAdd, argEnv_nil, exL_seq, exL_ops, runOps_n, evalK_mov, rd_c, spent_c, opC_ok, put_d, runOps_nil, thenC_nrm, rd_t, reduceCtorEq, get_ne, get_eq, readV_d, spent_t, evalK_bin, isC_t, isC_c, Bool.or_true, bin_seql, hx_ne, decide_false, okS_some, exL_cond, condC_b, Bool.false_eq_true, ↓reduceIte, exL_skip, Nat.reduceEqDiff, bin_eql, Int.reduceEq, exL_block, Bool.or_false, bin_leq, Int.reduceLE, decide_true, runOps_g, wantG_bt, wantC_b, evalK_pick, pickV_b, blockC_nrm, restrict_cons, keepV_d, restrict_nil, bin_lss, Int.reduceLT, wantG_bf, Bool.not_false, bin_gtr, evalK_conv, w1, bin_sub, Int.reduceSub, evalK_bytes, List.map_cons, mkSl_cons, slV_cons, put_slV, evalK_lenL, readV_slV, lenL_slD, List.length_cons, f_internal_strconv_ParseUint_l0_in, keepV_slV]
    all_goals rfl
  · refine key 1152921504606846976 _ (by omega) (by omega) (by omega) ?_
    have w1 : binV .shl .num true (.d (.i .u64 1)) (.d (.i .u64 (wr .u64 8))) = some (.d (.i .u64 256)) := rfl
    have w2 : wr .u64 (256 - 1) = 255 := rfl
    simp only [f_internal_strconv_ParseUint, Int.cast_ofNat_Int, argEnv_cons, Nat.zero_add, Nat.reduceAdd, argEnv_nil, exL_seq, exL_ops, runOps_n, evalK_mov, rd_c, spent_c, opC_ok, put_d, runOps_nil, thenC_nrm, rd_t, reduceCtorEq, get_ne, get_eq, readV_d, spent_t, evalK_bin, isC_t, isC_c, Bool.or_true, bin_seql, hx_ne, decide_false, okS_some, exL_cond, condC_b, Bool.false_eq_true, ↓reduceIte, exL_skip, Nat.reduceEqDiff, bin_eql, Int.reduceEq, exL_block, Bool.or_false, bin_leq, Int.reduceLE, decide_true, runOps_g, wantG_bt, wantC_b, evalK_pick, pickV_b, blockC_nrm, restrict_cons, keepV_d, restrict_nil, bin_lss, Int.reduceLT, wantG_bf, Bool.not_false, bin_gtr, evalK_conv, w1, bin_sub, Int.reduceSub, evalK_bytes, List.map_cons, mkSl_cons, slV_cons, put_slV, evalK_lenL, readV_slV, lenL_slD, List.length_cons, f_internal_strconv_ParseUint_l0_in, keepV_slV]
    all_goals rfl
theorem puint_call {s : List Nat} (hs : ∀ c ∈ s, cHx c = true) (hne : s ≠ []) (hz : s.length ≤ 1000000) {b bits mx : Nat} (hb : b = 10 ∧ bits = 31 ∧ mx = 2147483647 ∨ b = 16 ∧ bits = 32 ∧ mx = 4294967295 ∨ b = 16 ∧ bits = 8 ∧ mx = 255) {H : List Obj} :
    match pu b mx 0 s with
    | some u => callL pg 64 [.d (.s s), .d (.i .i64 (b : Nat)), .d (.i .i64 (bits : Nat))] H = some ⟨false, true, .tup [.d (.i .u64 (u : Nat)), .d .ni], H, H.length⟩
    | none => ∃ z, callL pg 64 [.d (.s s), .d (.i .i64 (b : Nat)), .d (.i .i64 (bits : Nat))] H = some ⟨false, true, .tup [.d (.i .u64 z), .ifc 112 .undef], H, H.length⟩ := by
  have h := pu_call hs hne hz hb (H := H)
  rw [callL_fn (fn := f_strconv_ParseUint) rfl rfl]
  generalize pu b mx 0 s = r at h
  cases r with
  | some u =>
    simp only [PuC] at h
    simp only [f_strconv_ParseUint, argEnv_cons, Nat.zero_add, Nat.reduceAdd, argEnv_nil, exL_seq, exL_ops, runOps_n, evalK_mov, rd_c, spent_c, opC_ok, put_d, runOps_nil, thenC_nrm, rd_t, reduceCtorEq, get_ne, get_eq, readV_d, spent_t, Nat.reduceEqDiff, evalK_call, List.map_cons, List.map_nil, allLeave_cons, leaves_d, allLeave_nil, Bool.and_self, eCall_f, h, callC_some, spentAll_cons, spentAll_nil, Nat.min_self, put_tup, readV_tup, evalK_extract, extV_0, copy_d, okS_some, extV_1, evalK_bin, isC_t, isC_c, Bool.or_true, ni_neq, exL_cond, condC_b, Bool.false_eq_true, ↓reduceIte, exL_skip, exL_ret, finC_ret, resultVs_cons, resultV_t, ownV_d, resultVs_nil, consO_some, leaveC_2, leaves_tup, oks_cons, ok_d, oks_nil, ref_tup, refs_cons, ref_d, refs_nil, Nat.max_self, settle_tup, leave_pure]
    all_goals rfl
  | none =>
    obtain ⟨z, er, h0, h⟩ := h
    have ht := fun (f : List Nat) => te_call (f := f) (t := s) (b := (b : Int)) (z := (bits : Int)) h0 hz (H := H)
    refine ⟨z, ?_⟩
    simp only [f_strconv_ParseUint, argEnv_cons, Nat.zero_add, Nat.reduceAdd, argEnv_nil, exL_seq, exL_ops, runOps_n, evalK_mov, rd_c, spent_c, opC_ok, put_d, runOps_nil, thenC_nrm, rd_t, reduceCtorEq, get_ne, get_eq, readV_d, spent_t, Nat.reduceEqDiff, evalK_call, List.map_cons, List.map_nil, allLeave_cons, leaves_d, allLeave_nil, Bool.and_self, eCall_f, h, callC_some, spentAll_cons, spentAll_nil, Nat.min_self, put_tup, readV_tup, evalK_extract, extV_0, copy_d, okS_some, extV_1, copy_ifc, put_ifc, readV_ifc, evalK_bin, isC_t, isC_c, Bool.or_true, ifc_neq, exL_cond, condC_b, ↓reduceIte, rd_mv, takeV_d, spent_mv, takeV_ifc, leaves_ifc, ok_d, ht, exL_ret, thenC_ret, finC_ret, resultVs_cons, resultV_t, ownV_d, ownV_ifc, resultVs_nil, consO_some, leaveC_2, leaves_tup, oks_cons, ok_ifc, ok_undef, oks_nil]
    all_goals exact leave_pure rfl rfl rfl
end W

set_option linter.unusedSimpArgs false
set_option linter.unusedVariables false
namespace W
open Go (IntKind BinOp UnOp)
set_option maxRecDepth 20000
theorem run_all (P : Nat → Bool) : ∀ (l : List Nat), ∀ c ∈ l.take (run P l), P c = true
  | [], c, h => by simp at h
  | x :: l, c, h => by
    simp only [run] at h
    cases hp : P x with
    | false => rw [hp] at h; simp at h
    | true =>
      rw [hp] at h
      simp only [cond_true, List.take_succ_cons, List.mem_cons] at h
      rcases h with rfl | h
      · exact hp
      · exact run_all P l c h
theorem pre1 {x c : Nat} {l : List Nat} : pre [x] (c :: l) = decide (c = x) := by simp [pre]
theorem pre10 {x : Nat} : pre [x] [] = false := by simp [pre]
theorem pre1_lt {x a : Nat} {s : List Nat} (h : pre [x] (s.drop a) = true) : a < s.length := by
  rcases Nat.lt_or_ge a s.length with h1 | h1
  · exact h1
  · rw [List.drop_eq_nil_of_le h1, pre10] at h; cases h
def numR (kind : Int) (b mx : Nat) (t : List Nat) (a' : Nat) : Sy := match pu b mx 0 t with
  | none => .bad 30
  | some u => .ok kind [] (wr .i32 (wr .u32 (u : Nat))) a'
def numS (s : List Nat) (a : Nat) : Sy :=
  if pre [72] (s.drop (a + run cHx (s.drop a))) then numR 2 16 4294967295 ((s.drop a).take (run cHx (s.drop a))) (a + run cHx (s.drop a) + 1)
  else if pre [88] (s.drop (a + run cHx (s.drop a))) then numR 3 16 255 ((s.drop a).take (run cHx (s.drop a))) (a + run cHx (s.drop a) + 1)
  else numR 2 10 2147483647 ((s.drop a).take (run cHx (s.drop a))) (a + run cHx (s.drop a))
theorem number_call {s : List Nat} (hz : s.length ≤ 1000000) {id a c : Nat} {l : List Nat} {H : List Obj} (hL : s.drop a = c :: l) (hc : cDg c = true) (hH : H[id]? = some (sc s a)) : MRes id s a H (numS s a) (callL pg 44 [.ptr id 0] H) := by
  have hid : id < H.length := (List.getElem?_eq_some_iff.1 hH).1
  have ha : a ≤ s.length := by have := (drop_c hL).2.2; omega
  obtain ⟨sm, lo, g1, g2, g3, hw⟩ := while_call (F := 63) (P := cHx) (fun c H => hex_call) hz ha hH
  have hle := run_le cHx (s.drop a)
  have hk : 0 < run cHx (s.drop a) := by rw [hL]; simp [run, cHx, hc]
  have hall := run_all cHx (s.drop a)
  have hlen : ((s.drop a).take (run cHx (s.drop a))).length = run cHx (s.drop a) := by simp only [List.length_take]; omega
  simp only [List.length_drop] at hle
  unfold numS
  generalize run cHx (s.drop a) = k at *
  generalize (s.drop a).take k = t at *
  have hne : t ≠ [] := by intro h; rw [h] at hlen; simp at hlen; omega
  have hm1 : min H.length lo = lo := by omega
  have hm2 : min lo H.length = lo := by omega
  have hm3 : min lo id = id := by omega
  have hm4 : min id H.length = id := by omega
  have hH1 : (setAt H id (sc s (a + k)))[id]? = some (sc s (a + k)) := setAt_get hH
  have hh1 := has_call (t := [72]) hH1 (by omega)
  have hh2 := has_call (t := [88]) hH1 (by omega)
  have hw1 : wr .i64 (((a + k : Nat) : Int) + 1) = ((a + k + 1 : Nat) : Int) := by rw [wr_i64 (by omega) (by omega)]; omega
  rw [callL_fn (fn := f_scan_scanner_number) rfl rfl]
  have e10 : ((10 : Nat) : Int) = 10 := rfl
  have e16 : ((16 : Nat) : Int) = 16 := rfl
  have e31 : ((31 : Nat) : Int) = 31 := rfl
  have e32 : ((32 : Nat) : Int) = 32 := rfl
  have e8 : ((8 : Nat) : Int) = 8 := rfl
  cases hp1 : pre [72] (s.drop (a + k)) with
  | true =>
    rw [hp1] at hh1
    rw [if_pos rfl]
    have hlt := pre1_lt hp1
    have hn := fun (H : List Obj) => puint_call (b := 16) (bits := 32) (mx := 4294967295) hall hne (by omega) (by omega) (H := H)
    unfold numR
    generalize pu 16 4294967295 0 t = r at hn
    simp only [e16, e32] at hn
    cases r with
    | some u =>
      simp only at hn ⊢
      refine MRes.good hid hH (lo := id) (Nat.le_refl _) (by omega) (.inr (Nat.le_refl _)) ?_ (e := ?_)
      rotate_left
      · simp only [f_scan_scanner_number, argEnv_cons, Nat.zero_add, argEnv_nil, exL_seq, exL_ops, runOps_n, evalK_allocL, List.map_cons, List.map_nil, opC_ok, put_box, killLp_cons, killV_ptr, killLp_nil, runOps_nil, thenC_nrm, evalK_mov, rd_t, reduceCtorEq, get_ne, get_eq, readV_ptr, spent_t, put_ptr, evalK_nilCheck, okS_some, evalK_fieldAddr, faV_ptr, evalK_load, loadV_ptr, hH, cellV_1, List.getElem?_cons_succ, List.getElem?_cons_zero, Option.map_some, copy1_d, put_d, readV_d, evalK_call, rd_f, allLeave_cons, leaves_ptr, leaves_fn, oks_nil, Bool.and_self, allLeave_nil, eCall_f, hw, callC_some, spentAll_cons, spent_f, spentAll_nil, hm1, rd_mv, takeV_d, spent_mv, rd_c, spent_c, exL_block, leaves_d, hh1, setAt_length, hm2, exL_cond, condC_b, ↓reduceIte, hH1, evalK_bin, isC_t, isC_c, Bool.or_true, bin_add, hw1, Nat.reduceEqDiff, evalK_store, storeV_P, one_i, cells_d1, List.length_cons, List.length_nil, ones_cons, vone_d, ones_nil, storeP_cells, Nat.reduceAdd, Nat.reduceLT, setCells_1, List.set_cons_succ, List.set_cons_zero, storePR_some, setAt_setAt, hm3, put_none, blockC_nrm, restrict_cons, keepV_box, keepV_d, restrict_nil, hn, hm4, put_tup, readV_tup, evalK_extract, extV_0, copy_d, extV_1, ni_neq, Bool.false_eq_true, exL_skip, evalK_conv, evalK_build, fillC_1, fillC_nil, aggO_some, mkAgg_eq, allD_d, allD_nil, consD_some, aggV_some, readV_box, storeV_lp, cells_agg, one_s, storeB_box, setCells_all, storeR_some, exL_ret, finC_ret, resultVs_cons, resultV_cell, resC_box, Nat.reduceLeDiff, boxV_A, List.drop_zero, List.take_succ_cons, List.take_zero, resultVs_nil, consO_some, leaveC_1]
        rfl
    | none =>
      obtain ⟨z, hn1⟩ := hn (setAt H id (sc s (a + k + 1)))
      simp only
      refine MRes.worse hid hH (lo := id) (a' := a + k + 1) (Nat.le_refl _) (by omega) (.inr (Nat.le_refl _)) ?_ (e := ?_)
      rotate_left
      · simp only [f_scan_scanner_number, argEnv_cons, Nat.zero_add, argEnv_nil, exL_seq, exL_ops, runOps_n, evalK_allocL, List.map_cons, List.map_nil, opC_ok, put_box, killLp_cons, killV_ptr, killLp_nil, runOps_nil, thenC_nrm, evalK_mov, rd_t, reduceCtorEq, get_ne, get_eq, readV_ptr, spent_t, put_ptr, evalK_nilCheck, okS_some, evalK_fieldAddr, faV_ptr, evalK_load, loadV_ptr, hH, cellV_1, List.getElem?_cons_succ, List.getElem?_cons_zero, Option.map_some, copy1_d, put_d, readV_d, evalK_call, rd_f, allLeave_cons, leaves_ptr, leaves_fn, oks_nil, Bool.and_self, allLeave_nil, eCall_f, hw, callC_some, spentAll_cons, spent_f, spentAll_nil, hm1, rd_mv, takeV_d, spent_mv, rd_c, spent_c, exL_block, leaves_d, hh1, setAt_length, hm2, exL_cond, condC_b, ↓reduceIte, hH1, evalK_bin, isC_t, isC_c, Bool.or_true, bin_add, hw1, Nat.reduceEqDiff, evalK_store, storeV_P, one_i, cells_d1, List.length_cons, List.length_nil, ones_cons, vone_d, ones_nil, storeP_cells, Nat.reduceAdd, Nat.reduceLT, setCells_1, List.set_cons_succ, List.set_cons_zero, storePR_some, setAt_setAt, hm3, put_none, blockC_nrm, restrict_cons, keepV_box, keepV_d, restrict_nil, hn1, hm4, put_tup, readV_tup, evalK_extract, extV_0, copy_d, extV_1, copy_ifc, put_ifc, readV_ifc, ifc_neq, fail_call, opC_pan, thenC_pan, finC_pan]
        rfl
  | false =>
    rw [hp1] at hh1
    rw [if_neg (by simp)]
    cases hp2 : pre [88] (s.drop (a + k)) with
    | true =>
      rw [hp2] at hh2
      rw [if_pos rfl]
      have hlt := pre1_lt hp2
      have hn := fun (H : List Obj) => puint_call (b := 16) (bits := 8) (mx := 255) hall hne (by omega) (by omega) (H := H)
      unfold numR
      generalize pu 16 255 0 t = r at hn
      simp only [e16, e8] at hn
      cases r with
      | some u =>
        simp only at hn ⊢
        refine MRes.good hid hH (lo := id) (Nat.le_refl _) (by omega) (.inr (Nat.le_refl _)) ?_ (e := ?_)
        rotate_left
        · simp only [f_scan_scanner_number, argEnv_cons, Nat.zero_add, argEnv_nil, exL_seq, exL_ops, runOps_n, evalK_allocL, List.map_cons, List.map_nil, opC_ok, put_box, killLp_cons, killV_ptr, killLp_nil, runOps_nil, thenC_nrm, evalK_mov, rd_t, reduceCtorEq, get_ne, get_eq, readV_ptr, spent_t, put_ptr, evalK_nilCheck, okS_some, evalK_fieldAddr, faV_ptr, evalK_load, loadV_ptr, hH, cellV_1, List.getElem?_cons_succ, List.getElem?_cons_zero, Option.map_some, copy1_d, put_d, readV_d, evalK_call, rd_f, allLeave_cons, leaves_ptr, leaves_fn, oks_nil, Bool.and_self, allLeave_nil, eCall_f, hw, callC_some, spentAll_cons, spent_f, spentAll_nil, hm1, rd_mv, takeV_d, spent_mv, rd_c, spent_c, exL_block, leaves_d, hh1, setAt_length, hm2, exL_cond, condC_b, Bool.false_eq_true, ↓reduceIte, hh2, hH1, evalK_bin, isC_t, isC_c, Bool.or_true, bin_add, hw1, Nat.reduceEqDiff, evalK_store, storeV_P, one_i, cells_d1, List.length_cons, List.length_nil, ones_cons, vone_d, ones_nil, storeP_cells, Nat.reduceAdd, Nat.reduceLT, setCells_1, List.set_cons_succ, List.set_cons_zero, storePR_some, setAt_setAt, hm3, put_none, blockC_nrm, restrict_cons, keepV_box, keepV_d, restrict_nil, hn, hm4, put_tup, readV_tup, evalK_extract, extV_0, copy_d, extV_1, ni_neq, exL_skip, evalK_conv, evalK_build, fillC_1, fillC_nil, aggO_some, mkAgg_eq, allD_d, allD_nil, consD_some, aggV_some, readV_box, storeV_lp, cells_agg, one_s, storeB_box, setCells_all, storeR_some, exL_ret, finC_ret, resultVs_cons, resultV_cell, resC_box, Nat.reduceLeDiff, boxV_A, List.drop_zero, List.take_succ_cons, List.take_zero, resultVs_nil, consO_some, leaveC_1]
          rfl
      | none =>
        obtain ⟨z, hn1⟩ := hn (setAt H id (sc s (a + k + 1)))
        simp only
        refine MRes.worse hid hH (lo := id) (a' := a + k + 1) (Nat.le_refl _) (by omega) (.inr (Nat.le_refl _)) ?_ (e := ?_)
        rotate_left
        · simp only [f_scan_scanner_number, argEnv_cons, Nat.zero_add, argEnv_nil, exL_seq, exL_ops, runOps_n, evalK_allocL, List.map_cons, List.map_nil, opC_ok, put_box, killLp_cons, killV_ptr, killLp_nil, runOps_nil, thenC_nrm, evalK_mov, rd_t, reduceCtorEq, get_ne, get_eq, readV_ptr, spent_t, put_ptr, evalK_nilCheck, okS_some, evalK_fieldAddr, faV_ptr, evalK_load, loadV_ptr, hH, cellV_1, List.getElem?_cons_succ, List.getElem?_cons_zero, Option.map_some, copy1_d, put_d, readV_d, evalK_call, rd_f, allLeave_cons, leaves_ptr, leaves_fn, oks_nil, Bool.and_self, allLeave_nil, eCall_f, hw, callC_some, spentAll_cons, spent_f, spentAll_nil, hm1, rd_mv, takeV_d, spent_mv, rd_c, spent_c, exL_block, leaves_d, hh1, setAt_length, hm2, exL_cond, condC_b, Bool.false_eq_true, ↓reduceIte, hh2, hH1, evalK_bin, isC_t, isC_c, Bool.or_true, bin_add, hw1, Nat.reduceEqDiff, evalK_store, storeV_P, one_i, cells_d1, List.length_cons, List.length_nil, ones_cons, vone_d, ones_nil, storeP_cells, Nat.reduceAdd, Nat.reduceLT, setCells_1, List.set_cons_succ, List.set_cons_zero, storePR_some, setAt_setAt, hm3, put_none, blockC_nrm, restrict_cons, keepV_box, keepV_d, restrict_nil, hn1, hm4, put_tup, readV_tup, evalK_extract, extV_0, copy_d, extV_1, copy_ifc, put_ifc, readV_ifc, ifc_neq, fail_call, opC_pan, thenC_pan, finC_pan]
          rfl
    | false =>
      rw [hp2] at hh2
      rw [if_neg (by simp)]
      have hn := fun (H : List Obj) => puint_call (b := 10) (bits := 31) (mx := 2147483647) hall hne (by omega) (by omega) (H := H)
      unfold numR
      generalize pu 10 2147483647 0 t = r at hn
      simp only [e10, e31] at hn
      have g3' : a + k = a ∨ lo ≤ id := by omega
      cases r with
      | some u =>
        simp only at hn ⊢
        refine MRes.good hid hH g1 g2 g3' ?_ (e := ?_)
        rotate_left
        · simp only [f_scan_scanner_number, argEnv_cons, Nat.zero_add, argEnv_nil, exL_seq, exL_ops, runOps_n, evalK_allocL, List.map_cons, List.map_nil, opC_ok, put_box, killLp_cons, killV_ptr, killLp_nil, runOps_nil, thenC_nrm, evalK_mov, rd_t, reduceCtorEq, get_ne, get_eq, readV_ptr, spent_t, put_ptr, evalK_nilCheck, okS_some, evalK_fieldAddr, faV_ptr, evalK_load, loadV_ptr, hH, cellV_1, List.getElem?_cons_succ, List.getElem?_cons_zero, Option.map_some, copy1_d, put_d, readV_d, evalK_call, rd_f, allLeave_cons, leaves_ptr, leaves_fn, oks_nil, Bool.and_self, allLeave_nil, eCall_f, hw, callC_some, spentAll_cons, spent_f, spentAll_nil, hm1, rd_mv, takeV_d, spent_mv, rd_c, spent_c, exL_block, leaves_d, hh1, setAt_length, hm2, exL_cond, condC_b, Bool.false_eq_true, ↓reduceIte, hh2, exL_skip, blockC_nrm, restrict_cons, Nat.reduceEqDiff, keepV_box, keepV_d, restrict_nil, hn, put_tup, readV_tup, evalK_extract, extV_0, copy_d, extV_1, evalK_bin, isC_t, isC_c, Bool.or_true, ni_neq, evalK_conv, evalK_build, one_i, cells_d1, vone_d, List.length_cons, List.length_nil, Nat.reduceAdd, Nat.reduceLT, fillC_1, List.set_cons_zero, List.set_cons_succ, fillC_nil, aggO_some, mkAgg_eq, allD_d, allD_nil, consD_some, aggV_some, evalK_store, readV_box, storeV_lp, cells_agg, ones_cons, one_s, ones_nil, storeB_box, setCells_all, storeR_some, put_none, exL_ret, finC_ret, resultVs_cons, resultV_cell, resC_box, Nat.reduceLeDiff, boxV_A, List.drop_zero, List.take_succ_cons, List.take_zero, resultVs_nil, consO_some, leaveC_1]
          rfl
      | none =>
        obtain ⟨z, hn1⟩ := hn (setAt H id (sc s (a + k)))
        simp only
        refine MRes.worse hid hH g1 g2 g3' ?_ (e := ?_)
        rotate_left
        · simp only [f_scan_scanner_number, argEnv_cons, Nat.zero_add, argEnv_nil, exL_seq, exL_ops, runOps_n, evalK_allocL, List.map_cons, List.map_nil, opC_ok, put_box, killLp_cons, killV_ptr, killLp_nil, runOps_nil, thenC_nrm, evalK_mov, rd_t, reduceCtorEq, get_ne, get_eq, readV_ptr, spent_t, put_ptr, evalK_nilCheck, okS_some, evalK_fieldAddr, faV_ptr, evalK_load, loadV_ptr, hH, cellV_1, List.getElem?_cons_succ, List.getElem?_cons_zero, Option.map_some, copy1_d, put_d, readV_d, evalK_call, rd_f, allLeave_cons, leaves_ptr, leaves_fn, oks_nil, Bool.and_self, allLeave_nil, eCall_f, hw, callC_some, spentAll_cons, spent_f, spentAll_nil, hm1, rd_mv, takeV_d, spent_mv, rd_c, spent_c, exL_block, leaves_d, hh1, setAt_length, hm2, exL_cond, condC_b, Bool.false_eq_true, ↓reduceIte, hh2, exL_skip, blockC_nrm, restrict_cons, Nat.reduceEqDiff, keepV_box, keepV_d, restrict_nil, hn1, put_tup, readV_tup, evalK_extract, extV_0, copy_d, extV_1, copy_ifc, put_ifc, readV_ifc, evalK_bin, isC_t, isC_c, Bool.or_true, ifc_neq, fail_call, opC_pan, thenC_pan, finC_pan]
          rfl
def textS (s : List Nat) (a : Nat) : Sy :=
  if pre [34] (s.drop (a + 1 + run cTx (s.drop (a + 1)))) then
    (if 120 < run cTx (s.drop (a + 1)) then .bad 34 else .ok 4 ((s.drop (a + 1)).take (run cTx (s.drop (a + 1)))) 0 (a + 1 + run cTx (s.drop (a + 1)) + 1))
  else .bad 30
theorem text_call {s : List Nat} (hz : s.length ≤ 1000000) {id a : Nat} {H : List Obj} (ha : a < s.length) (hH : H[id]? = some (sc s a)) : MRes id s a H (textS s a) (callL pg 46 [.ptr id 0] H) := by
  have hid : id < H.length := (List.getElem?_eq_some_iff.1 hH).1
  have hH1 : (setAt H id (sc s (a + 1)))[id]? = some (sc s (a + 1)) := setAt_get hH
  obtain ⟨sm, lo, g1, g2, g3, hw⟩ := while_call (F := 66) (P := cTx) (fun c H => text1_call) hz (by omega) hH1
  have hle := run_le cTx (s.drop (a + 1))
  have hlen : ((s.drop (a + 1)).take (run cTx (s.drop (a + 1)))).length = run cTx (s.drop (a + 1)) := by simp only [List.length_take]; omega
  simp only [List.length_drop] at hle
  rw [setAt_setAt] at hw
  rw [setAt_length] at g2
  unfold textS
  generalize run cTx (s.drop (a + 1)) = k at *
  generalize (s.drop (a + 1)).take k = t at *
  have hm1 : min H.length id = id := by omega
  have hm2 : min id lo = id := by omega
  have hm3 : min id H.length = id := by omega
  have hm4 : min id id = id := by omega
  have hH2 : (setAt H id (sc s (a + 1 + k)))[id]? = some (sc s (a + 1 + k)) := setAt_get hH
  have hh1 := has_call (t := [34]) hH2 (by omega)
  have hw0 : wr .i64 ((a : Int) + 1) = ((a + 1 : Nat) : Int) := by rw [wr_i64 (by omega) (by omega)]; omega
  have hw1 : wr .i64 (((a + 1 + k : Nat) : Int) + 1) = ((a + 1 + k + 1 : Nat) : Int) := by rw [wr_i64 (by omega) (by omega)]; omega
  rw [callL_fn (fn := f_scan_scanner_text) rfl rfl]
  cases hp : pre [34] (s.drop (a + 1 + k)) with
  | false =>
    rw [hp] at hh1
    rw [if_neg (by simp)]
    refine MRes.worse hid hH (lo := id) (a' := a + 1 + k) (Nat.le_refl _) (by omega) (.inr (Nat.le_refl _)) ?_ (e := ?_)
    rotate_left
    · simp only [f_scan_scanner_text, argEnv_cons, Nat.zero_add, argEnv_nil, exL_seq, exL_ops, runOps_n, evalK_allocL, List.map_cons, List.map_nil, opC_ok, put_box, killLp_cons, killV_ptr, killLp_nil, runOps_nil, thenC_nrm, evalK_mov, rd_t, reduceCtorEq, get_ne, get_eq, readV_ptr, spent_t, put_ptr, evalK_nilCheck, okS_some, evalK_fieldAddr, faV_ptr, evalK_load, loadV_ptr, hH, cellV_1, List.getElem?_cons_succ, List.getElem?_cons_zero, Option.map_some, copy1_d, put_d, readV_d, evalK_bin, isC_t, isC_c, Bool.or_true, rd_c, bin_add, hw0, Nat.reduceEqDiff, evalK_store, storeV_P, one_i, cells_d1, List.length_cons, List.length_nil, ones_cons, vone_d, ones_nil, Bool.and_self, storeP_cells, Nat.reduceAdd, Nat.reduceLT, setCells_1, List.set_cons_succ, List.set_cons_zero, storePR_some, hm1, put_none, evalK_call, rd_f, allLeave_cons, leaves_ptr, leaves_fn, oks_nil, allLeave_nil, eCall_f, hw, callC_some, spentAll_cons, spent_f, spentAll_nil, hm2, rd_mv, takeV_d, spent_mv, exL_block, leaves_d, hh1, setAt_length, spent_c, hm3, evalK_un, un_not, Bool.not_false, exL_cond, condC_b, ↓reduceIte, fail_call, opC_pan, blockC_pan, thenC_pan, finC_pan]
      rfl
  | true =>
    rw [hp] at hh1
    rw [if_pos rfl]
    have hlt := pre1_lt hp
    by_cases h1 : 120 < k
    · have e1 : ((120 : Int) < ((k : Nat) : Int)) = True := by rw [eq_iff_iff]; simp; omega
      rw [if_pos h1]
      refine MRes.worse hid hH (lo := id) (a' := a + 1 + k) (Nat.le_refl _) (by omega) (.inr (Nat.le_refl _)) ?_ (e := ?_)
      rotate_left
      · simp only [f_scan_scanner_text, argEnv_cons, Nat.zero_add, argEnv_nil, exL_seq, exL_ops, runOps_n, evalK_allocL, List.map_cons, List.map_nil, opC_ok, put_box, killLp_cons, killV_ptr, killLp_nil, runOps_nil, thenC_nrm, evalK_mov, rd_t, reduceCtorEq, get_ne, get_eq, readV_ptr, spent_t, put_ptr, evalK_nilCheck, okS_some, evalK_fieldAddr, faV_ptr, evalK_load, loadV_ptr, hH, cellV_1, List.getElem?_cons_succ, List.getElem?_cons_zero, Option.map_some, copy1_d, put_d, readV_d, evalK_bin, isC_t, isC_c, Bool.or_true, rd_c, bin_add, hw0, Nat.reduceEqDiff, evalK_store, storeV_P, one_i, cells_d1, List.length_cons, List.length_nil, ones_cons, vone_d, ones_nil, Bool.and_self, storeP_cells, Nat.reduceAdd, Nat.reduceLT, setCells_1, List.set_cons_succ, List.set_cons_zero, storePR_some, hm1, put_none, evalK_call, rd_f, allLeave_cons, leaves_ptr, leaves_fn, oks_nil, allLeave_nil, eCall_f, hw, callC_some, spentAll_cons, spent_f, spentAll_nil, hm2, rd_mv, takeV_d, spent_mv, exL_block, leaves_d, hh1, setAt_length, spent_c, hm3, evalK_un, un_not, Bool.not_true, exL_cond, condC_b, Bool.false_eq_true, ↓reduceIte, evalK_lenS, lenS_s, hlen, bin_gtr, e1, decide_true, fail_call, opC_pan, blockC_pan, thenC_pan, finC_pan]
        rfl
    · have e1 : ((120 : Int) < ((k : Nat) : Int)) = False := by rw [eq_iff_iff]; simp; omega
      rw [if_neg h1]
      refine MRes.good hid hH (lo := id) (Nat.le_refl _) (by omega) (.inr (Nat.le_refl _)) ?_ (e := ?_)
      rotate_left
      · simp only [f_scan_scanner_text, argEnv_cons, Nat.zero_add, argEnv_nil, exL_seq, exL_ops, runOps_n, evalK_allocL, List.map_cons, List.map_nil, opC_ok, put_box, killLp_cons, killV_ptr, killLp_nil, runOps_nil, thenC_nrm, evalK_mov, rd_t, reduceCtorEq, get_ne, get_eq, readV_ptr, spent_t, put_ptr, evalK_nilCheck, okS_some, evalK_fieldAddr, faV_ptr, evalK_load, loadV_ptr, hH, cellV_1, List.getElem?_cons_succ, List.getElem?_cons_zero, Option.map_some, copy1_d, put_d, readV_d, evalK_bin, isC_t, isC_c, Bool.or_true, rd_c, bin_add, hw0, Nat.reduceEqDiff, evalK_store, storeV_P, one_i, cells_d1, List.length_cons, List.length_nil, ones_cons, vone_d, ones_nil, Bool.and_self, storeP_cells, Nat.reduceAdd, Nat.reduceLT, setCells_1, List.set_cons_succ, List.set_cons_zero, storePR_some, hm1, put_none, evalK_call, rd_f, allLeave_cons, leaves_ptr, leaves_fn, oks_nil, allLeave_nil, eCall_f, hw, callC_some, spentAll_cons, spent_f, spentAll_nil, hm2, rd_mv, takeV_d, spent_mv, exL_block, leaves_d, hh1, setAt_length, spent_c, hm3, evalK_un, un_not, Bool.not_true, exL_cond, condC_b, Bool.false_eq_true, ↓reduceIte, evalK_lenS, lenS_s, hlen, bin_gtr, e1, decide_false, exL_skip, blockC_nrm, restrict_cons, keepV_ptr, keepV_box, keepV_d, restrict_nil, hH2, hw1, setAt_setAt, hm4, evalK_build, fillC_1, one_s, fillC_nil, aggO_some, mkAgg_eq, allD_d, allD_nil, consD_some, aggV_some, readV_box, storeV_lp, cells_agg, storeB_box, setCells_all, storeR_some, exL_ret, finC_ret, resultVs_cons, resultV_cell, resC_box, Nat.reduceLeDiff, boxV_A, List.drop_zero, List.take_succ_cons, List.take_zero, resultVs_nil, consO_some, leaveC_1]
        rfl
def SG : List Nat := [43, 45, 42, 47, 38, 126, 61, 35, 60, 62, 46, 44, 59, 58, 40, 41, 91, 93, 123, 125, 94, 124]
def signS (s : List Nat) (a c : Nat) : Sy :=
  if pre [60, 61] (s.drop a) then .ok 5 [60, 61] 0 (a + 2)
  else if pre [62, 61] (s.drop a) then .ok 5 [62, 61] 0 (a + 2)
  else if pre [58, 61] (s.drop a) then .ok 5 [58, 61] 0 (a + 2)
  else if pre [46, 46] (s.drop a) then .ok 5 [46, 46] 0 (a + 2)
  else if ixN c SG < 0 then .bad 30 else .ok 5 [c] 0 (a + 1)
theorem sign_call {s : List Nat} (hs : ∀ c ∈ s, c < 256) (hz : s.length ≤ 1000000) {id a c : Nat} {l : List Nat} {H : List Obj} (hL : s.drop a = c :: l) (hH : H[id]? = some (sc s a)) : MRes id s a H (signS s a c) (callL pg 47 [.ptr id 0] H) := by
  have hid : id < H.length := (List.getElem?_eq_some_iff.1 hH).1
  obtain ⟨hget, hdr, hlt⟩ := drop_c hL
  have hh := fun (t : List Nat) => has_call (t := t) hH (by omega)
  have hix : ixV (.d (.s s)) (.d (.i .i64 (a : Int))) = some (.d (.i .u8 ((c : Nat) : Int))) := ixV_s (by omega) (by simpa using hget)
  have hc : c < 256 := hs c (List.mem_of_getElem? hget)
  have hi := ix_call (t := SG) hc (H := H)
  have hm1 : min H.length id = id := by omega
  have hw1 : wr .i64 ((a : Int) + 1) = ((a + 1 : Nat) : Int) := by rw [wr_i64 (by omega) (by omega)]; omega
  have hw2 : wr .i64 ((a : Int) + 2) = ((a + 2 : Nat) : Int) := by rw [wr_i64 (by omega) (by omega)]; omega
  have i0 : iaV (.d (.sl [.s [60, 61], .s [62, 61], .s [58, 61], .s [46, 46]])) (.d (.i .i64 0)) 1 none = some (.cp (.s [60, 61])) := rfl
  have i1 : iaV (.d (.sl [.s [60, 61], .s [62, 61], .s [58, 61], .s [46, 46]])) (.d (.i .i64 1)) 1 none = some (.cp (.s [62, 61])) := rfl
  have i2 : iaV (.d (.sl [.s [60, 61], .s [62, 61], .s [58, 61], .s [46, 46]])) (.d (.i .i64 2)) 1 none = some (.cp (.s [58, 61])) := rfl
  have i3 : iaV (.d (.sl [.s [60, 61], .s [62, 61], .s [58, 61], .s [46, 46]])) (.d (.i .i64 3)) 1 none = some (.cp (.s [46, 46])) := rfl
  have w1 : wr .i64 1 = 1 := rfl
  have w2 : wr .i64 2 = 2 := rfl
  have w3 : wr .i64 3 = 3 := rfl
  have w4 : wr .i64 4 = 4 := rfl
  rw [callL_fn (fn := f_scan_scanner_sign) rfl rfl]
  unfold signS
  have h0 := hh [60, 61]
  have h1 := hh [62, 61]
  have h2 := hh [58, 61]
  have h3 := hh [46, 46]
  by_cases q0 : pre [60, 61] (s.drop a) = true
  · rw [if_pos q0]
    rw [q0] at h0
    refine MRes.good hid hH (lo := id) (Nat.le_refl _) (by omega) (.inr (Nat.le_refl _)) ?_ (e := ?_)
    rotate_left
    · simp only [f_scan_scanner_sign, argEnv_cons, Nat.zero_add, argEnv_nil, exL_seq, exL_ops, runOps_n, evalK_allocL, List.map_cons, List.map_nil, opC_ok, put_box, killLp_cons, killV_ptr, killLp_nil, runOps_nil, thenC_nrm, evalK_buildSlice, dcells_s, List.length_cons, List.length_nil, List.reduceReplicate, rd_c, Nat.reduceAdd, Nat.reduceLT, fillD_cons, List.set_cons_zero, List.set_cons_succ, fillD_nil, wfs_cons, one_s, wf_one, wfs_nil, Bool.and_self, slO_some, okS_some, put_osl, evalK_lenL, rd_t, get_eq, readV_osl, lenL_sl, Int.cast_ofNat_Int, put_d, evalK_mov, spent_c, exL_block, f_scan_scanner_sign_l0_in, reduceCtorEq, get_ne, keepV_ptr, Nat.reduceEqDiff, keepV_box, keepV_osl, keepV_d, f_scan_scanner_sign_l0_eq, f_scan_scanner_sign_B0, evalK_bin, isC_t, Bool.or_self, readV_d, bin_lss, Int.reduceLT, decide_true, exL_cond, condC_b, ↓reduceIte, exL_skip, evalK_indexAddr, i0, put_cp, evalK_load, readV_cp, loadV_cp_s, spent_t, readV_ptr, put_ptr, evalK_call, allLeave_cons, leaves_ptr, leaves_d, allLeave_nil, eCall_f, h0, callC_some, spentAll_cons, spentAll_nil, Nat.min_self, evalK_nilCheck, evalK_fieldAddr, faV_ptr, loadV_ptr, hH, cellV_1, List.getElem?_cons_succ, List.getElem?_cons_zero, Option.map_some, copy1_d, evalK_lenS, lenS_s, bin_add, hw2, evalK_store, storeV_P, one_i, cells_d1, ones_cons, vone_d, ones_nil, storeP_cells, setCells_1, storePR_some, hm1, put_none, evalK_build, fillC_1, fillC_nil, aggO_some, mkAgg_eq, allD_d, allD_nil, consD_some, aggV_some, readV_box, storeV_lp, cells_agg, storeB_box, setCells_all, storeR_some, exL_ret, blockC_ret, thenC_ret, finC_ret, resultVs_cons, resultV_cell, resC_box, Nat.reduceLeDiff, boxV_A, List.drop_zero, List.take_succ_cons, List.take_zero, resultVs_nil, consO_some, leaveC_1]
      rfl
  rw [if_neg q0]
  rw [Bool.not_eq_true] at q0
  rw [q0] at h0
  by_cases q1 : pre [62, 61] (s.drop a) = true
  · rw [if_pos q1]
    rw [q1] at h1
    refine MRes.good hid hH (lo := id) (Nat.le_refl _) (by omega) (.inr (Nat.le_refl _)) ?_ (e := ?_)
    rotate_left
    · simp only [f_scan_scanner_sign, argEnv_cons, Nat.zero_add, argEnv_nil, exL_seq, exL_ops, runOps_n, evalK_allocL, List.map_cons, List.map_nil, opC_ok, put_box, killLp_cons, killV_ptr, killLp_nil, runOps_nil, thenC_nrm, evalK_buildSlice, dcells_s, List.length_cons, List.length_nil, List.reduceReplicate, rd_c, Nat.reduceAdd, Nat.reduceLT, fillD_cons, List.set_cons_zero, List.set_cons_succ, fillD_nil, wfs_cons, one_s, wf_one, wfs_nil, Bool.and_self, slO_some, okS_some, put_osl, evalK_lenL, rd_t, get_eq, readV_osl, lenL_sl, Int.cast_ofNat_Int, put_d, evalK_mov, spent_c, exL_block, f_scan_scanner_sign_l0_in, reduceCtorEq, get_ne, keepV_ptr, Nat.reduceEqDiff, keepV_box, keepV_osl, keepV_d, f_scan_scanner_sign_l0_eq, f_scan_scanner_sign_B0, evalK_bin, isC_t, Bool.or_self, readV_d, bin_lss, Int.reduceLT, decide_true, exL_cond, condC_b, ↓reduceIte, exL_skip, evalK_indexAddr, i0, put_cp, evalK_load, readV_cp, loadV_cp_s, spent_t, readV_ptr, put_ptr, evalK_call, allLeave_cons, leaves_ptr, leaves_d, allLeave_nil, eCall_f, h0, callC_some, spentAll_cons, spentAll_nil, Nat.min_self, Bool.false_eq_true, blockC_nrm, restrict_cons, restrict_nil, isC_c, Bool.or_true, bin_add, Int.reduceAdd, w1, i1, h1, evalK_nilCheck, evalK_fieldAddr, faV_ptr, loadV_ptr, hH, cellV_1, List.getElem?_cons_succ, List.getElem?_cons_zero, Option.map_some, copy1_d, evalK_lenS, lenS_s, hw2, evalK_store, storeV_P, one_i, cells_d1, ones_cons, vone_d, ones_nil, storeP_cells, setCells_1, storePR_some, hm1, put_none, evalK_build, fillC_1, fillC_nil, aggO_some, mkAgg_eq, allD_d, allD_nil, consD_some, aggV_some, readV_box, storeV_lp, cells_agg, storeB_box, setCells_all, storeR_some, exL_ret, blockC_ret, thenC_ret, finC_ret, resultVs_cons, resultV_cell, resC_box, Nat.reduceLeDiff, boxV_A, List.drop_zero, List.take_succ_cons, List.take_zero, resultVs_nil, consO_some, leaveC_1]
      rfl
  rw [if_neg q1]
  rw [Bool.not_eq_true] at q1
  rw [q1] at h1
  by_cases q2 : pre [58, 61] (s.drop a) = true
  · rw [if_pos q2]
    rw [q2] at h2
    refine MRes.good hid hH (lo := id) (Nat.le_refl _) (by omega) (.inr (Nat.le_refl _)) ?_ (e := ?_)
    rotate_left
    · simp only [f_scan_scanner_sign, argEnv_cons, Nat.zero_add, argEnv_nil, exL_seq, exL_ops, runOps_n, evalK_allocL, List.map_cons, List.map_nil, opC_ok, put_box, killLp_cons, killV_ptr, killLp_nil, runOps_nil, thenC_nrm, evalK_buildSlice, dcells_s, List.length_cons, List.length_nil, List.reduceReplicate, rd_c, Nat.reduceAdd, Nat.reduceLT, fillD_cons, List.set_cons_zero, List.set_cons_succ, fillD_nil, wfs_cons, one_s, wf_one, wfs_nil, Bool.and_self, slO_some, okS_some, put_osl, evalK_lenL, rd_t, get_eq, readV_osl, lenL_sl, Int.cast_ofNat_Int, put_d, evalK_mov, spent_c, exL_block, f_scan_scanner_sign_l0_in, reduceCtorEq, get_ne, keepV_ptr, Nat.reduceEqDiff, keepV_box, keepV_osl, keepV_d, f_scan_scanner_sign_l0_eq, f_scan_scanner_sign_B0, evalK_bin, isC_t, Bool.or_self, readV_d, bin_lss, Int.reduceLT, decide_true, exL_cond, condC_b, ↓reduceIte, exL_skip, evalK_indexAddr, i0, put_cp, evalK_load, readV_cp, loadV_cp_s, spent_t, readV_ptr, put_ptr, evalK_call, allLeave_cons, leaves_ptr, leaves_d, allLeave_nil, eCall_f, h0, callC_some, spentAll_cons, spentAll_nil, Nat.min_self, Bool.false_eq_true, blockC_nrm, restrict_cons, restrict_nil, isC_c, Bool.or_true, bin_add, Int.reduceAdd, w1, i1, h1, w2, i2, h2, evalK_nilCheck, evalK_fieldAddr, faV_ptr, loadV_ptr, hH, cellV_1, List.getElem?_cons_succ, List.getElem?_cons_zero, Option.map_some, copy1_d, evalK_lenS, lenS_s, hw2, evalK_store, storeV_P, one_i, cells_d1, ones_cons, vone_d, ones_nil, storeP_cells, setCells_1, storePR_some, hm1, put_none, evalK_build, fillC_1, fillC_nil, aggO_some, mkAgg_eq, allD_d, allD_nil, consD_some, aggV_some, readV_box, storeV_lp, cells_agg, storeB_box, setCells_all, storeR_some, exL_ret, blockC_ret, thenC_ret, finC_ret, resultVs_cons, resultV_cell, resC_box, Nat.reduceLeDiff, boxV_A, List.drop_zero, List.take_succ_cons, List.take_zero, resultVs_nil, consO_some, leaveC_1]
      rfl
  rw [if_neg q2]
  rw [Bool.not_eq_true] at q2
  rw [q2] at h2
  by_cases q3 : pre [46, 46] (s.drop a) = true
  · rw [if_pos q3]
    rw [q3] at h3
    refine MRes.good hid hH (lo := id) (Nat.le_refl _) (by omega) (.inr (Nat.le_refl _)) ?_ (e := ?_)
    rotate_left
    · simp only [f_scan_scanner_sign, argEnv_cons, Nat.zero_add, argEnv_nil, exL_seq, exL_ops, runOps_n, evalK_allocL, List.map_cons, List.map_nil, opC_ok, put_box, killLp_cons, killV_ptr, killLp_nil, runOps_nil, thenC_nrm, evalK_buildSlice, dcells_s, List.length_cons, List.length_nil, List.reduceReplicate, rd_c, Nat.reduceAdd, Nat.reduceLT, fillD_cons, List.set_cons_zero, List.set_cons_succ, fillD_nil, wfs_cons, one_s, wf_one, wfs_nil, Bool.and_self, slO_some, okS_some, put_osl, evalK_lenL, rd_t, get_eq, readV_osl, lenL_sl, Int.cast_ofNat_Int, put_d, evalK_mov, spent_c, exL_block, f_scan_scanner_sign_l0_in, reduceCtorEq, get_ne, keepV_ptr, Nat.reduceEqDiff, keepV_box, keepV_osl, keepV_d, f_scan_scanner_sign_l0_eq, f_scan_scanner_sign_B0, evalK_bin, isC_t, Bool.or_self, readV_d, bin_lss, Int.reduceLT, decide_true, exL_cond, condC_b, ↓reduceIte, exL_skip, evalK_indexAddr, i0, put_cp, evalK_load, readV_cp, loadV_cp_s, spent_t, readV_ptr, put_ptr, evalK_call, allLeave_cons, leaves_ptr, leaves_d, allLeave_nil, eCall_f, h0, callC_some, spentAll_cons, spentAll_nil, Nat.min_self, Bool.false_eq_true, blockC_nrm, restrict_cons, restrict_nil, isC_c, Bool.or_true, bin_add, Int.reduceAdd, w1, i1, h1, w2, i2, h2, w3, i3, h3, evalK_nilCheck, evalK_fieldAddr, faV_ptr, loadV_ptr, hH, cellV_1, List.getElem?_cons_succ, List.getElem?_cons_zero, Option.map_some, copy1_d, evalK_lenS, lenS_s, hw2, evalK_store, storeV_P, one_i, cells_d1, ones_cons, vone_d, ones_nil, storeP_cells, setCells_1, storePR_some, hm1, put_none, evalK_build, fillC_1, fillC_nil, aggO_some, mkAgg_eq, allD_d, allD_nil, consD_some, aggV_some, readV_box, storeV_lp, cells_agg, storeB_box, setCells_all, storeR_some, exL_ret, blockC_ret, thenC_ret, finC_ret, resultVs_cons, resultV_cell, resC_box, Nat.reduceLeDiff, boxV_A, List.drop_zero, List.take_succ_cons, List.take_zero, resultVs_nil, consO_some, leaveC_1]
      rfl
  rw [if_neg q3]
  rw [Bool.not_eq_true] at q3
  rw [q3] at h3
  by_cases q4 : ixN c SG < 0
  · have e1 : (ixN c SG < 0) = True := eq_true q4
    rw [if_pos q4]
    simp only [SG] at hi e1
    refine MRes.worse hid hH (lo := H.length) (a' := a) (by omega) (Nat.le_refl _) (.inl rfl) ?_ (e := ?_)
    rotate_left
    · rw [setAt_self hH]
      simp only [f_scan_scanner_sign, f_scan_scanner_sign_R1, argEnv_cons, Nat.zero_add, argEnv_nil, exL_seq, exL_ops, runOps_n, evalK_allocL, List.map_cons, List.map_nil, opC_ok, put_box, killLp_cons, killV_ptr, killLp_nil, runOps_nil, thenC_nrm, evalK_buildSlice, dcells_s, List.length_cons, List.length_nil, List.reduceReplicate, rd_c, Nat.reduceAdd, Nat.reduceLT, fillD_cons, List.set_cons_zero, List.set_cons_succ, fillD_nil, wfs_cons, one_s, wf_one, wfs_nil, Bool.and_self, slO_some, okS_some, put_osl, evalK_lenL, rd_t, get_eq, readV_osl, lenL_sl, Int.cast_ofNat_Int, put_d, evalK_mov, spent_c, exL_block, f_scan_scanner_sign_l0_in, reduceCtorEq, get_ne, keepV_ptr, Nat.reduceEqDiff, keepV_box, keepV_osl, keepV_d, f_scan_scanner_sign_l0_eq, f_scan_scanner_sign_B0, evalK_bin, isC_t, Bool.or_self, readV_d, bin_lss, Int.reduceLT, decide_true, exL_cond, condC_b, ↓reduceIte, exL_skip, evalK_indexAddr, i0, put_cp, evalK_load, readV_cp, loadV_cp_s, spent_t, readV_ptr, put_ptr, evalK_call, allLeave_cons, leaves_ptr, leaves_d, allLeave_nil, eCall_f, h0, callC_some, spentAll_cons, spentAll_nil, Nat.min_self, Bool.false_eq_true, blockC_nrm, restrict_cons, restrict_nil, isC_c, Bool.or_true, bin_add, Int.reduceAdd, w1, i1, h1, w2, i2, h2, w3, i3, h3, w4, decide_false, exL_exit, thenC_exit, blockC_exit, exL_opsD, runOpsD_n, opDC_same, putD_ptr, putC_some, evalK_nilCheck, evalK_fieldAddr, faV_ptr, Nat.add_zero, loadV_ptr, hH, cellV_1, List.getElem?_cons_zero, Option.map_some, copy1_d, putD_d, List.getElem?_cons_succ, evalK_index, hix, opDC_serial, hi, e1, runOpsD_nil, fail_call, opC_pan, thenC_pan, finC_pan]
      rfl
  · have e1 : (ixN c SG < 0) = False := eq_false q4
    rw [if_neg q4]
    simp only [SG] at hi e1
    have hH1 : (setAt H id (sc s (a + 1)))[id]? = some (sc s (a + 1)) := setAt_get hH
    have hwm : wr .i64 (((a + 1 : Nat) : Int) - 1) = (a : Int) := by rw [wr_i64 (by omega) (by omega)]; omega
    have hmid := sl_mid (l := s) (a := a) (b := a + 1) (by omega) (by omega)
    have hmm : (s.take (a + 1)).drop a = [c] := by
      rw [List.drop_take, hL]; simp
    rw [hmm] at hmid
    refine MRes.good hid hH (lo := id) (Nat.le_refl _) (by omega) (.inr (Nat.le_refl _)) ?_ (e := ?_)
    rotate_left
    · simp only [f_scan_scanner_sign, f_scan_scanner_sign_R1, argEnv_cons, Nat.zero_add, argEnv_nil, exL_seq, exL_ops, runOps_n, evalK_allocL, List.map_cons, List.map_nil, opC_ok, put_box, killLp_cons, killV_ptr, killLp_nil, runOps_nil, thenC_nrm, evalK_buildSlice, dcells_s, List.length_cons, List.length_nil, List.reduceReplicate, rd_c, Nat.reduceAdd, Nat.reduceLT, fillD_cons, List.set_cons_zero, List.set_cons_succ, fillD_nil, wfs_cons, one_s, wf_one, wfs_nil, Bool.and_self, slO_some, okS_some, put_osl, evalK_lenL, rd_t, get_eq, readV_osl, lenL_sl, Int.cast_ofNat_Int, put_d, evalK_mov, spent_c, exL_block, f_scan_scanner_sign_l0_in, reduceCtorEq, get_ne, keepV_ptr, Nat.reduceEqDiff, keepV_box, keepV_osl, keepV_d, f_scan_scanner_sign_l0_eq, f_scan_scanner_sign_B0, evalK_bin, isC_t, Bool.or_self, readV_d, bin_lss, Int.reduceLT, decide_true, exL_cond, condC_b, ↓reduceIte, exL_skip, evalK_indexAddr, i0, put_cp, evalK_load, readV_cp, loadV_cp_s, spent_t, readV_ptr, put_ptr, evalK_call, allLeave_cons, leaves_ptr, leaves_d, allLeave_nil, eCall_f, h0, callC_some, spentAll_cons, spentAll_nil, Nat.min_self, Bool.false_eq_true, blockC_nrm, restrict_cons, restrict_nil, isC_c, Bool.or_true, bin_add, Int.reduceAdd, w1, i1, h1, w2, i2, h2, w3, i3, h3, w4, decide_false, exL_exit, thenC_exit, blockC_exit, exL_opsD, runOpsD_n, opDC_same, putD_ptr, putC_some, evalK_nilCheck, evalK_fieldAddr, faV_ptr, Nat.add_zero, loadV_ptr, hH, cellV_1, List.getElem?_cons_zero, Option.map_some, copy1_d, putD_d, List.getElem?_cons_succ, evalK_index, hix, opDC_serial, hi, e1, runOpsD_nil, hw1, evalK_store, storeV_P, one_i, cells_d1, ones_cons, vone_d, ones_nil, storeP_cells, setCells_1, storePR_some, hm1, put_none, hH1, bin_sub, hwm, evalK_sliceS, optInt_some, oInt_i, cut2_some, hmid, evalK_build, fillC_1, fillC_nil, aggO_some, mkAgg_eq, allD_d, allD_nil, consD_some, aggV_some, readV_box, storeV_lp, cells_agg, storeB_box, setCells_all, storeR_some, putD_none, exL_ret, finC_ret, resultVs_cons, resultV_cell, resC_box, Nat.reduceLeDiff, boxV_A, List.drop_zero, List.take_succ_cons, List.take_zero, resultVs_nil, consO_some, leaveC_1]
      rfl
end W

set_option linter.unusedSimpArgs false
set_option linter.unusedVariables false
namespace W
open Go (IntKind BinOp UnOp)
set_option maxRecDepth 20000
theorem sk_le : ∀ (n deep frm a : Nat) (l : List Nat) (j : Nat), l.length ≤ n → sk deep frm a l = (true, j) → a ≤ j ∧ j ≤ a + l.length := by
  intro n
  induction n with
  | zero =>
    intro deep frm a l j hn h
    have : l = [] := List.length_eq_zero_iff.1 (by omega)
    subst this
    simp only [sk] at h
    split at h
    · cases h; simp
    · cases h
  | succ n ih =>
    intro deep frm a l j hn h
    match l, hn, h with
    | [], hn, h =>
      simp only [sk] at h
      split at h
      · cases h; simp
      · cases h
    | [c], hn, h =>
      simp only [sk] at h
      split at h
      · split at h
        · cases h; simp
        · cases h; simp
      · cases h
    | c :: d :: l, hn, h =>
      simp only [List.length_cons] at hn ⊢
      rw [sk] at h
      split at h
      · have := ih _ _ _ _ _ (by omega) h; omega
      · split at h
        · have := ih _ _ _ _ _ (by omega) h; omega
        · split at h
          · have := ih _ _ _ _ _ (by simp only [List.length_cons]; omega) h
            simp only [List.length_cons] at this; omega
          · cases h; omega
def symS (s : List Nat) (j : Nat) : Sy := match s.drop j with
  | [] => .bad 0
  | c :: _ => if cLt c = true then wordS s j else if cDg c = true then numS s j else if c = 34 then textS s j else signS s j c
inductive Nx where
  | ok (k : Int) (p e : Nat) (t : List Nat) (n : Int)
  | bad (p : Nat) (e : Int)
def nxOf (j : Nat) : Sy → Nx
  | .ok k t n a' => .ok k j a' t n
  | .bad e => .bad j e
def nextS (s : List Nat) (a : Nat) : Nx := match sk 0 a a (s.drop a) with
  | (false, p) => .bad p 30
  | (true, j) => if j = s.length then .ok 0 j j [] 0 else nxOf j (symS s j)
def NRes (id : Nat) (s : List Nat) (a : Nat) (H : List Obj) (r : Nx) (X : Option Cr) : Prop :=
  match r with
  | .ok k p e t n => ∃ sm lo, id ≤ lo ∧ lo ≤ H.length ∧ (e = a ∨ lo ≤ id) ∧ X = some ⟨false, sm, .d (tok k p e t n), setAt H id (sc s e), lo⟩
  | .bad p x => ∃ sm lo a', id ≤ lo ∧ lo ≤ H.length ∧ (a' = a ∨ lo ≤ id) ∧ X = some ⟨true, sm, .ifc 66 (.d (.agg [.i .i64 (p : Nat), .i .i64 x])), setAt H id (sc s a'), lo⟩
theorem NRes.good {id : Nat} {s : List Nat} {a p a' : Nat} {H : List Obj} {k n : Int} {t : List Nat} {e : Env} {lo : Nat} {X : Option Cr} (hid : id < H.length) (hH : H[id]? = some (sc s a)) (h1 : id ≤ lo) (h2 : lo ≤ H.length) (h3 : a' = a ∨ lo ≤ id)
    (h : X = leave H false (.d (tok k p a' t n)) ⟨e, setAt H id (sc s a'), lo⟩) : NRes id s a H (.ok k p a' t n) X := by
  obtain ⟨sm, hlv⟩ := leave_sc (pan := false) (v := .d (tok k p a' t n)) (e := e) (lo := lo) (o := sc s a') rfl rfl (fun _ => rfl) (by
      rcases h3 with h | h
      · left; rw [h]; exact setAt_self hH
      · right; exact h) hid
  exact ⟨sm, lo, h1, h2, h3, h.trans hlv⟩
theorem NRes.worse {id p : Nat} {s : List Nat} {a a' : Nat} {H : List Obj} {x : Int} {e : Env} {lo : Nat} {X : Option Cr} (hid : id < H.length) (hH : H[id]? = some (sc s a)) (h1 : id ≤ lo) (h2 : lo ≤ H.length) (h3 : a' = a ∨ lo ≤ id)
    (h : X = leave H true (.ifc 66 (.d (.agg [.i .i64 (p : Nat), .i .i64 x]))) ⟨e, setAt H id (sc s a'), lo⟩) : NRes id s a H (.bad p x) X := by
  obtain ⟨sm, hlv⟩ := leave_sc (pan := true) (v := .ifc 66 (.d (.agg [.i .i64 (p : Nat), .i .i64 x]))) (e := e) (lo := lo) (o := sc s a') rfl rfl (fun _ => rfl) (by
      rcases h3 with h | h
      · left; rw [h]; exact setAt_self hH
      · right; exact h) hid
  exact ⟨sm, lo, a', h1, h2, h3, h.trans hlv⟩
theorem next_call {s : List Nat} (hs : ∀ c ∈ s, c < 256) (hz : s.length ≤ 1000000) {id a : Nat} {H : List Obj} (ha : a ≤ s.length) (hH : H[id]? = some (sc s a)) : NRes id s a H (nextS s a) (callL pg 28 [.ptr id 0] H) := by
  have hid : id < H.length := (List.getElem?_eq_some_iff.1 hH).1
  have hsk := skip_call hs hz ha hH
  rw [callL_fn (fn := f_scan_scanner_next) rfl rfl]
  unfold nextS
  have hjl := fun j => sk_le (s.drop a).length 0 a a (s.drop a) j (Nat.le_refl _)
  generalize sk 0 a a (s.drop a) = r at hsk hjl
  obtain ⟨b, j⟩ := r
  cases b with
  | false =>
    obtain ⟨sm, lo, a', g1, g2, g3, hsk⟩ := hsk
    have hm1 : min H.length lo = lo := by omega
    refine NRes.worse hid hH g1 g2 g3 ?_ (e := ?_)
    rotate_left
    · simp only [f_scan_scanner_next, argEnv_cons, Nat.zero_add, argEnv_nil, exL_seq, exL_ops, runOps_n, evalK_allocL, List.map_cons, List.map_nil, opC_ok, put_box, killLp_cons, killV_ptr, killLp_nil, runOps_nil, thenC_nrm, evalK_mov, rd_t, reduceCtorEq, get_ne, get_eq, readV_ptr, spent_t, put_ptr, evalK_call, allLeave_cons, leaves_ptr, allLeave_nil, Bool.and_self, eCall_f, hsk, callC_some, spentAll_cons, spentAll_nil, hm1, opC_pan, thenC_pan, finC_pan]
      rfl
  | true =>
    obtain ⟨sm, lo, g1, g2, g3, hsk⟩ := hsk
    have hjr := hjl j rfl
    simp only [List.length_drop] at hjr
    have hm1 : min H.length lo = lo := by omega
    have hm2 : min lo H.length = lo := by omega
    have hH1 : (setAt H id (sc s j))[id]? = some (sc s j) := setAt_get hH
    simp only
    by_cases hj : j = s.length
    · have e1 : ((j : Int) = (s.length : Int)) = True := by rw [eq_iff_iff]; simp; omega
      rw [if_pos hj]
      refine NRes.good hid hH g1 g2 g3 ?_ (e := ?_)
      rotate_left
      · simp only [f_scan_scanner_next, argEnv_cons, Nat.zero_add, argEnv_nil, exL_seq, exL_ops, runOps_n, evalK_allocL, List.map_cons, List.map_nil, opC_ok, put_box, killLp_cons, killV_ptr, killLp_nil, runOps_nil, thenC_nrm, evalK_mov, rd_t, reduceCtorEq, get_ne, get_eq, readV_ptr, spent_t, put_ptr, evalK_call, allLeave_cons, leaves_ptr, allLeave_nil, Bool.and_self, eCall_f, hsk, callC_some, spentAll_cons, spentAll_nil, hm1, put_tup, evalK_nilCheck, okS_some, evalK_fieldAddr, faV_ptr, evalK_load, loadV_ptr, hH1, cellV_1, List.getElem?_cons_succ, List.getElem?_cons_zero, Option.map_some, copy1_d, put_d, readV_d, killV_d, killV_tup, killV_box, exL_block, exL_opsD, runOpsD_n, opDC_same, putD_ptr, putC_some, putD_d, Nat.add_zero, evalK_lenS, lenS_s, evalK_bin, isC_t, Bool.or_self, Nat.reduceEqDiff, bin_eql, e1, decide_true, opDC_serial, runOpsD_nil, exL_cond, condC_b, ↓reduceIte, evalK_build, rd_c, one_i, cells_d1, vone_d, List.length_cons, List.length_nil, Nat.reduceAdd, Nat.reduceLT, fillC_1, List.set_cons_zero, fillC_nil, aggO_some, mkAgg_eq, allD_d, allD_nil, consD_some, aggV_some, evalK_store, readV_box, storeV_lp, cells_agg, ones_cons, one_s, ones_nil, storeB_box, setCells_all, storeR_some, put_none, blockC_nrm, restrict_cons, keepV_ptr, keepV_box, keepV_d, restrict_nil, faV_lp, putD_lp, hasNat_nil, lpD_f, readV_lp, setCells_1, List.set_cons_succ, putD_none, loadV_lp, Nat.reduceLeDiff, boxV_A, List.drop_zero, List.take_succ_cons, List.take_zero, exL_ret, finC_ret, resultVs_cons, resultV_cell, resC_box, resultVs_nil, consO_some, leaveC_1, tok]
        rfl
    · have e1 : ((j : Int) = (s.length : Int)) = False := by rw [eq_iff_iff]; simp; omega
      rw [if_neg hj]
      have hjlt : j < s.length := by omega
      have hL : s.drop j = s[j] :: s.drop (j + 1) := drop_cons hjlt
      have hix : ixV (.d (.s s)) (.d (.i .i64 (j : Int))) = some (.d (.i .u8 ((s[j] : Nat) : Int))) := ixV_s (by omega) (by simp)
      generalize s[j] = c at hL hix
      have hlc := letter_call (c := c) (H := setAt H id (sc s j))
      have hdc := digit_call (c := c) (H := setAt H id (sc s j))
      have hq := has_call (t := [34]) hH1 (by omega)
      rw [hL, pre1] at hq
      have fin : ∀ (r : Sy) (f : Nat), MRes id s j (setAt H id (sc s j)) r (callL pg f [.ptr id 0] (setAt H id (sc s j))) →
          (∀ sm2 lo2 k t n a', callL pg f [.ptr id 0] (setAt H id (sc s j)) = some ⟨false, sm2, .d (tok k 0 0 t n), setAt H id (sc s a'), lo2⟩ → r = .ok k t n a' → ∃ e, finC H true [.cell 2 ⟨5, true⟩] (exL pg f_scan_scanner_next.body ⟨argEnv 0 [.ptr id 0], H, H.length⟩) = leave H false (.d (tok k j a' t n)) ⟨e, setAt H id (sc s a'), min lo lo2⟩) →
          (∀ sm2 lo2 x a', callL pg f [.ptr id 0] (setAt H id (sc s j)) = some ⟨true, sm2, .ifc 66 (.d (.agg [.i .i64 (j : Nat), .i .i64 x])), setAt H id (sc s a'), lo2⟩ → r = .bad x → ∃ e, finC H true [.cell 2 ⟨5, true⟩] (exL pg f_scan_scanner_next.body ⟨argEnv 0 [.ptr id 0], H, H.length⟩) = leave H true (.ifc 66 (.d (.agg [.i .i64 (j : Nat), .i .i64 x]))) ⟨e, setAt H id (sc s a'), min lo lo2⟩) →
          NRes id s a H (nxOf j r) (finC H true [.cell 2 ⟨5, true⟩] (exL pg f_scan_scanner_next.body ⟨argEnv 0 [.ptr id 0], H, H.length⟩)) := by
        intro r f hm hgood hbad
        cases r with
        | ok k t n a' =>
          obtain ⟨sm2, lo2, q1, q2, q3, hc⟩ := hm
          rw [setAt_setAt] at hc
          rw [setAt_length] at q2
          obtain ⟨e, he⟩ := hgood sm2 lo2 k t n a' hc rfl
          exact NRes.good hid hH (by omega) (by omega) (by omega) he
        | bad x =>
          obtain ⟨sm2, lo2, a', q1, q2, q3, hc⟩ := hm
          rw [setAt_setAt] at hc
          rw [setAt_length] at q2
          obtain ⟨e, he⟩ := hbad sm2 lo2 x a' hc rfl
          exact NRes.worse hid hH (by omega) (by omega) (by omega) he
      have hsym : symS s j = if cLt c = true then wordS s j else if cDg c = true then numS s j else if c = 34 then textS s j else signS s j c := by
        unfold symS; rw [hL]
      rw [hsym]
      cases hlt : cLt c with
      | true =>
        rw [hlt] at hlc
        rw [if_pos rfl]
        refine fin _ 42 (word_call hz (by omega) hH1) ?_ ?_
        · intro sm2 lo2 k t n a' hc _
          have hH2 : (setAt H id (sc s a'))[id]? = some (sc s a') := setAt_get hH
          simp only [tok] at hc
          simp only [f_scan_scanner_next, argEnv_cons, Nat.zero_add, argEnv_nil, exL_seq, exL_ops, runOps_n, evalK_allocL, List.map_cons, List.map_nil, opC_ok, put_box, killLp_cons, killV_ptr, killLp_nil, runOps_nil, thenC_nrm, evalK_mov, rd_t, reduceCtorEq, get_ne, get_eq, readV_ptr, spent_t, put_ptr, evalK_call, allLeave_cons, leaves_ptr, allLeave_nil, Bool.and_self, eCall_f, hsk, callC_some, spentAll_cons, spentAll_nil, hm1, put_tup, evalK_nilCheck, okS_some, evalK_fieldAddr, faV_ptr, evalK_load, loadV_ptr, hH1, cellV_1, List.getElem?_cons_succ, List.getElem?_cons_zero, Option.map_some, copy1_d, put_d, readV_d, killV_d, killV_tup, killV_box, exL_block, exL_opsD, runOpsD_n, opDC_same, putD_ptr, putC_some, putD_d, Nat.add_zero, evalK_lenS, lenS_s, evalK_bin, isC_t, Bool.or_self, Nat.reduceEqDiff, bin_eql, e1, decide_false, opDC_serial, runOpsD_nil, exL_cond, condC_b, Bool.false_eq_true, ↓reduceIte, evalK_index, hix, leaves_d, hlc, setAt_length, hm2, rd_mv, takeV_d, spent_mv, hc, evalK_store, readV_box, storeV_lp, cells_agg, List.length_cons, List.length_nil, Nat.reduceAdd, ones_cons, vone_d, one_i, one_s, ones_nil, storeB_box, setCells_all, storeR_some, put_none, blockC_nrm, restrict_cons, keepV_ptr, keepV_box, keepV_d, restrict_nil, hH2, faV_lp, putD_lp, hasNat_nil, lpD_f, readV_lp, cells_d1, Nat.reduceLT, setCells_1, List.set_cons_succ, List.set_cons_zero, putD_none, loadV_lp, Nat.reduceLeDiff, boxV_A, List.drop_zero, List.take_succ_cons, List.take_zero, mkAgg_eq, allD_d, allD_nil, consD_some, aggV_some, exL_ret, finC_ret, resultVs_cons, resultV_cell, resC_box, resultVs_nil, consO_some, leaveC_1, tok]
          exact ⟨_, rfl⟩
        · intro sm2 lo2 x a' hc _
          simp only [f_scan_scanner_next, argEnv_cons, Nat.zero_add, argEnv_nil, exL_seq, exL_ops, runOps_n, evalK_allocL, List.map_cons, List.map_nil, opC_ok, put_box, killLp_cons, killV_ptr, killLp_nil, runOps_nil, thenC_nrm, evalK_mov, rd_t, reduceCtorEq, get_ne, get_eq, readV_ptr, spent_t, put_ptr, evalK_call, allLeave_cons, leaves_ptr, allLeave_nil, Bool.and_self, eCall_f, hsk, callC_some, spentAll_cons, spentAll_nil, hm1, put_tup, evalK_nilCheck, okS_some, evalK_fieldAddr, faV_ptr, evalK_load, loadV_ptr, hH1, cellV_1, List.getElem?_cons_succ, List.getElem?_cons_zero, Option.map_some, copy1_d, put_d, readV_d, killV_d, killV_tup, killV_box, exL_block, exL_opsD, runOpsD_n, opDC_same, putD_ptr, putC_some, putD_d, Nat.add_zero, evalK_lenS, lenS_s, evalK_bin, isC_t, Bool.or_self, Nat.reduceEqDiff, bin_eql, e1, decide_false, opDC_serial, runOpsD_nil, exL_cond, condC_b, Bool.false_eq_true, ↓reduceIte, evalK_index, hix, leaves_d, hlc, setAt_length, hm2, rd_mv, takeV_d, spent_mv, hc, opC_pan, blockC_pan, thenC_pan, finC_pan]
          exact ⟨_, rfl⟩
      | false =>
        rw [hlt] at hlc
        rw [if_neg (by simp)]
        cases hdt : cDg c with
        | true =>
          rw [hdt] at hdc
          rw [if_pos rfl]
          refine fin _ 44 (number_call hz hL hdt hH1) ?_ ?_
          · intro sm2 lo2 k t n a' hc _
            have hH2 : (setAt H id (sc s a'))[id]? = some (sc s a') := setAt_get hH
            simp only [tok] at hc
            simp only [f_scan_scanner_next, argEnv_cons, Nat.zero_add, argEnv_nil, exL_seq, exL_ops, runOps_n, evalK_allocL, List.map_cons, List.map_nil, opC_ok, put_box, killLp_cons, killV_ptr, killLp_nil, runOps_nil, thenC_nrm, evalK_mov, rd_t, reduceCtorEq, get_ne, get_eq, readV_ptr, spent_t, put_ptr, evalK_call, allLeave_cons, leaves_ptr, allLeave_nil, Bool.and_self, eCall_f, hsk, callC_some, spentAll_cons, spentAll_nil, hm1, put_tup, evalK_nilCheck, okS_some, evalK_fieldAddr, faV_ptr, evalK_load, loadV_ptr, hH1, cellV_1, List.getElem?_cons_succ, List.getElem?_cons_zero, Option.map_some, copy1_d, put_d, readV_d, killV_d, killV_tup, killV_box, exL_block, exL_opsD, runOpsD_n, opDC_same, putD_ptr, putC_some, putD_d, Nat.add_zero, evalK_lenS, lenS_s, evalK_bin, isC_t, Bool.or_self, Nat.reduceEqDiff, bin_eql, e1, decide_false, opDC_serial, runOpsD_nil, exL_cond, condC_b, Bool.false_eq_true, ↓reduceIte, evalK_index, hix, leaves_d, hlc, setAt_length, hm2, rd_mv, takeV_d, spent_mv, hdc, hc, evalK_store, readV_box, storeV_lp, cells_agg, List.length_cons, List.length_nil, Nat.reduceAdd, ones_cons, vone_d, one_i, one_s, ones_nil, storeB_box, setCells_all, storeR_some, put_none, blockC_nrm, restrict_cons, keepV_ptr, keepV_box, keepV_d, restrict_nil, hH2, faV_lp, putD_lp, hasNat_nil, lpD_f, readV_lp, cells_d1, Nat.reduceLT, setCells_1, List.set_cons_succ, List.set_cons_zero, putD_none, loadV_lp, Nat.reduceLeDiff, boxV_A, List.drop_zero, List.take_succ_cons, List.take_zero, mkAgg_eq, allD_d, allD_nil, consD_some, aggV_some, exL_ret, finC_ret, resultVs_cons, resultV_cell, resC_box, resultVs_nil, consO_some, leaveC_1, tok]
            exact ⟨_, rfl⟩
          · intro sm2 lo2 x a' hc _
            simp only [f_scan_scanner_next, argEnv_cons, Nat.zero_add, argEnv_nil, exL_seq, exL_ops, runOps_n, evalK_allocL, List.map_cons, List.map_nil, opC_ok, put_box, killLp_cons, killV_ptr, killLp_nil, runOps_nil, thenC_nrm, evalK_mov, rd_t, reduceCtorEq, get_ne, get_eq, readV_ptr, spent_t, put_ptr, evalK_call, allLeave_cons, leaves_ptr, allLeave_nil, Bool.and_self, eCall_f, hsk, callC_some, spentAll_cons, spentAll_nil, hm1, put_tup, evalK_nilCheck, okS_some, evalK_fieldAddr, faV_ptr, evalK_load, loadV_ptr, hH1, cellV_1, List.getElem?_cons_succ, List.getElem?_cons_zero, Option.map_some, copy1_d, put_d, readV_d, killV_d, killV_tup, killV_box, exL_block, exL_opsD, runOpsD_n, opDC_same, putD_ptr, putC_some, putD_d, Nat.add_zero, evalK_lenS, lenS_s, evalK_bin, isC_t, Bool.or_self, Nat.reduceEqDiff, bin_eql, e1, decide_false, opDC_serial, runOpsD_nil, exL_cond, condC_b, Bool.false_eq_true, ↓reduceIte, evalK_index, hix, leaves_d, hlc, setAt_length, hm2, rd_mv, takeV_d, spent_mv, hdc, hc, opC_pan, blockC_pan, thenC_pan, finC_pan]
            exact ⟨_, rfl⟩
        | false =>
          rw [hdt] at hdc
          rw [if_neg (by simp)]
          by_cases h34 : c = 34
          · rw [if_pos h34]
            rw [decide_eq_true h34] at hq
            refine fin _ 46 (text_call hz (by omega) hH1) ?_ ?_
            · intro sm2 lo2 k t n a' hc _
              have hH2 : (setAt H id (sc s a'))[id]? = some (sc s a') := setAt_get hH
              simp only [tok] at hc
              simp only [f_scan_scanner_next, argEnv_cons, Nat.zero_add, argEnv_nil, exL_seq, exL_ops, runOps_n, evalK_allocL, List.map_cons, List.map_nil, opC_ok, put_box, killLp_cons, killV_ptr, killLp_nil, runOps_nil, thenC_nrm, evalK_mov, rd_t, reduceCtorEq, get_ne, get_eq, readV_ptr, spent_t, put_ptr, evalK_call, allLeave_cons, leaves_ptr, allLeave_nil, Bool.and_self, eCall_f, hsk, callC_some, spentAll_cons, spentAll_nil, hm1, put_tup, evalK_nilCheck, okS_some, evalK_fieldAddr, faV_ptr, evalK_load, loadV_ptr, hH1, cellV_1, List.getElem?_cons_succ, List.getElem?_cons_zero, Option.map_some, copy1_d, put_d, readV_d, killV_d, killV_tup, killV_box, exL_block, exL_opsD, runOpsD_n, opDC_same, putD_ptr, putC_some, putD_d, Nat.add_zero, evalK_lenS, lenS_s, evalK_bin, isC_t, Bool.or_self, Nat.reduceEqDiff, bin_eql, e1, decide_false, opDC_serial, runOpsD_nil, exL_cond, condC_b, Bool.false_eq_true, ↓reduceIte, evalK_index, hix, leaves_d, hlc, setAt_length, hm2, rd_mv, takeV_d, spent_mv, hdc, rd_c, hq, spent_c, hc, evalK_store, readV_box, storeV_lp, cells_agg, List.length_cons, List.length_nil, Nat.reduceAdd, ones_cons, vone_d, one_i, one_s, ones_nil, storeB_box, setCells_all, storeR_some, put_none, blockC_nrm, restrict_cons, keepV_ptr, keepV_box, keepV_d, restrict_nil, hH2, faV_lp, putD_lp, hasNat_nil, lpD_f, readV_lp, cells_d1, Nat.reduceLT, setCells_1, List.set_cons_succ, List.set_cons_zero, putD_none, loadV_lp, Nat.reduceLeDiff, boxV_A, List.drop_zero, List.take_succ_cons, List.take_zero, mkAgg_eq, allD_d, allD_nil, consD_some, aggV_some, exL_ret, finC_ret, resultVs_cons, resultV_cell, resC_box, resultVs_nil, consO_some, leaveC_1, tok]
              exact ⟨_, rfl⟩
            · intro sm2 lo2 x a' hc _
              simp only [f_scan_scanner_next, argEnv_cons, Nat.zero_add, argEnv_nil, exL_seq, exL_ops, runOps_n, evalK_allocL, List.map_cons, List.map_nil, opC_ok, put_box, killLp_cons, killV_ptr, killLp_nil, runOps_nil, thenC_nrm, evalK_mov, rd_t, reduceCtorEq, get_ne, get_eq, readV_ptr, spent_t, put_ptr, evalK_call, allLeave_cons, leaves_ptr, allLeave_nil, Bool.and_self, eCall_f, hsk, callC_some, spentAll_cons, spentAll_nil, hm1, put_tup, evalK_nilCheck, okS_some, evalK_fieldAddr, faV_ptr, evalK_load, loadV_ptr, hH1, cellV_1, List.getElem?_cons_succ, List.getElem?_cons_zero, Option.map_some, copy1_d, put_d, readV_d, killV_d, killV_tup, killV_box, exL_block, exL_opsD, runOpsD_n, opDC_same, putD_ptr, putC_some, putD_d, Nat.add_zero, evalK_lenS, lenS_s, evalK_bin, isC_t, Bool.or_self, Nat.reduceEqDiff, bin_eql, e1, decide_false, opDC_serial, runOpsD_nil, exL_cond, condC_b, Bool.false_eq_true, ↓reduceIte, evalK_index, hix, leaves_d, hlc, setAt_length, hm2, rd_mv, takeV_d, spent_mv, hdc, rd_c, hq, spent_c, hc, opC_pan, blockC_pan, thenC_pan, finC_pan]
              exact ⟨_, rfl⟩
          · rw [if_neg h34]
            rw [decide_eq_false h34] at hq
            refine fin _ 47 (sign_call hs hz hL hH1) ?_ ?_
            · intro sm2 lo2 k t n a' hc _
              have hH2 : (setAt H id (sc s a'))[id]? = some (sc s a') := setAt_get hH
              simp only [tok] at hc
              simp only [f_scan_scanner_next, argEnv_cons, Nat.zero_add, argEnv_nil, exL_seq, exL_ops, runOps_n, evalK_allocL, List.map_cons, List.map_nil, opC_ok, put_box, killLp_cons, killV_ptr, killLp_nil, runOps_nil, thenC_nrm, evalK_mov, rd_t, reduceCtorEq, get_ne, get_eq, readV_ptr, spent_t, put_ptr, evalK_call, allLeave_cons, leaves_ptr, allLeave_nil, Bool.and_self, eCall_f, hsk, callC_some, spentAll_cons, spentAll_nil, hm1, put_tup, evalK_nilCheck, okS_some, evalK_fieldAddr, faV_ptr, evalK_load, loadV_ptr, hH1, cellV_1, List.getElem?_cons_succ, List.getElem?_cons_zero, Option.map_some, copy1_d, put_d, readV_d, killV_d, killV_tup, killV_box, exL_block, exL_opsD, runOpsD_n, opDC_same, putD_ptr, putC_some, putD_d, Nat.add_zero, evalK_lenS, lenS_s, evalK_bin, isC_t, Bool.or_self, Nat.reduceEqDiff, bin_eql, e1, decide_false, opDC_serial, runOpsD_nil, exL_cond, condC_b, Bool.false_eq_true, ↓reduceIte, evalK_index, hix, leaves_d, hlc, setAt_length, hm2, rd_mv, takeV_d, spent_mv, hdc, rd_c, hq, spent_c, hc, evalK_store, readV_box, storeV_lp, cells_agg, List.length_cons, List.length_nil, Nat.reduceAdd, ones_cons, vone_d, one_i, one_s, ones_nil, storeB_box, setCells_all, storeR_some, put_none, blockC_nrm, restrict_cons, keepV_ptr, keepV_box, keepV_d, restrict_nil, hH2, faV_lp, putD_lp, hasNat_nil, lpD_f, readV_lp, cells_d1, Nat.reduceLT, setCells_1, List.set_cons_succ, List.set_cons_zero, putD_none, loadV_lp, Nat.reduceLeDiff, boxV_A, List.drop_zero, List.take_succ_cons, List.take_zero, mkAgg_eq, allD_d, allD_nil, consD_some, aggV_some, exL_ret, finC_ret, resultVs_cons, resultV_cell, resC_box, resultVs_nil, consO_some, leaveC_1, tok]
              exact ⟨_, rfl⟩
            · intro sm2 lo2 x a' hc _
              simp only [f_scan_scanner_next, argEnv_cons, Nat.zero_add, argEnv_nil, exL_seq, exL_ops, runOps_n, evalK_allocL, List.map_cons, List.map_nil, opC_ok, put_box, killLp_cons, killV_ptr, killLp_nil, runOps_nil, thenC_nrm, evalK_mov, rd_t, reduceCtorEq, get_ne, get_eq, readV_ptr, spent_t, put_ptr, evalK_call, allLeave_cons, leaves_ptr, allLeave_nil, Bool.and_self, eCall_f, hsk, callC_some, spentAll_cons, spentAll_nil, hm1, put_tup, evalK_nilCheck, okS_some, evalK_fieldAddr, faV_ptr, evalK_load, loadV_ptr, hH1, cellV_1, List.getElem?_cons_succ, List.getElem?_cons_zero, Option.map_some, copy1_d, put_d, readV_d, killV_d, killV_tup, killV_box, exL_block, exL_opsD, runOpsD_n, opDC_same, putD_ptr, putC_some, putD_d, Nat.add_zero, evalK_lenS, lenS_s, evalK_bin, isC_t, Bool.or_self, Nat.reduceEqDiff, bin_eql, e1, decide_false, opDC_serial, runOpsD_nil, exL_cond, condC_b, Bool.false_eq_true, ↓reduceIte, evalK_index, hix, leaves_d, hlc, setAt_length, hm2, rd_mv, takeV_d, spent_mv, hdc, rd_c, hq, spent_c, hc, opC_pan, blockC_pan, thenC_pan, finC_pan]
              exact ⟨_, rfl⟩
end W

set_option linter.unusedSimpArgs false
set_option linter.unusedVariables false
namespace W
open Go (IntKind BinOp UnOp)
set_option maxRecDepth 20000
structure Tk where
  k : Int
  p : Nat
  e : Nat
  t : List Nat
  n : Int
  deriving DecidableEq
def eTk (x : Tk) : D := .agg [.i .i64 x.k, .i .i64 x.p, .i .i64 x.e, .s x.t, .i .i32 x.n]
def scanF (s : List Nat) : Nat → Nat → List Tk → Sum (Nat × Int) (List Tk)
  | 0, _, _ => .inl (0, 0)
  | f + 1, a, acc => match nextS s a with
    | .bad p e => .inl (p, e)
    | .ok k p e t n => if k = 0 then .inr (acc ++ [⟨k, p, e, t, n⟩]) else scanF s f e (acc ++ [⟨k, p, e, t, n⟩])
noncomputable def defC (pg : Pg) (fn : Fn) (H : List Obj) (t : Nat) (rest : C) (r : Option (Ex × St)) : Option Cr :=
  match r with
  | some (.nrm, st) => deferred pg (exL pg) fn H t rest st
  | some (.ret, st) => endCall fn H st
  | some (.pan v, st) => leave H true v st
  | _ => none
theorem callL_fnD {pg : Pg} {f : Nat} {fn : Fn} {vs : List V} {H : List Obj} {t : Nat} {rest : C} (hf : pg.fn f = some fn) (hn : fn.np = vs.length) (hd : fn.dfr = some (t, rest)) (hr : fn.rcv = none) :
    callL pg f vs H = defC pg fn H t rest (exL pg fn.body { env := argEnv 0 vs, H, lo := H.length }) := by
  rw [callL_eq]
  simp only [callWith, hf, hn, hd, hr, and_self, if_true, defC]
  all_goals rfl
theorem defC_nrm {pg : Pg} {fn : Fn} {H : List Obj} {t : Nat} {rest : C} {st : St} : defC pg fn H t rest (some (.nrm, st)) = deferred pg (exL pg) fn H t rest st := rfl
theorem endCall_fin {fn : Fn} {H : List Obj} {st : St} : endCall fn H st = finC H fn.own fn.res (some (.ret, st)) := rfl
theorem defC_ret {pg : Pg} {fn : Fn} {H : List Obj} {t : Nat} {rest : C} {st : St} : defC pg fn H t rest (some (.ret, st)) = endCall fn H st := rfl
theorem all1_ni {i0 i1 : Nat} {H : List Obj} {lo : Nat} : ∃ e, exL pg f_scan_All_1.body ⟨(5, .d .ni) :: argEnv 0 [.ptr i0 0, .ptr i1 0], H, lo⟩ = some (.nrm, ⟨e, H, lo⟩) := by
  simp only [f_scan_All_1, argEnv_cons, Nat.zero_add, Nat.reduceAdd, argEnv_nil, exL_seq, exL_ops, runOps_n, evalK_mov, rd_t, get_eq, readV_d, spent_t, opC_ok, put_d, runOps_nil, thenC_nrm, evalK_bin, isC_t, isC_c, Bool.or_true, rd_c, ni_neq, okS_some, exL_cond, condC_b, Bool.false_eq_true, ↓reduceIte, exL_skip]
  exact ⟨_, rfl⟩
theorem all1_bad {i0 i1 : Nat} {H : List Obj} {lo : Nat} {p e : Int} {v : V} (h0 : H[i0]? = some (.cells [v])) (h1 : H[i1]? = some (.cells [.d .nil])) (hne : (i1 = i0) = False) : ∃ en lo', min lo (min i0 i1) ≤ lo' ∧
    exL pg f_scan_All_1.body ⟨(5, .ifc 66 (.d (.agg [.i .i64 p, .i .i64 e]))) :: argEnv 0 [.ptr i0 0, .ptr i1 0], H, lo⟩ = some (.nrm, ⟨en, setAt (setAt H i0 (.cells [.d .nil])) i1 (.cells [.osl [.agg [.i .i64 p, .i .i64 e]]]), lo'⟩) := by
  have h2 : (setAt H i0 (.cells [.d .nil]))[i1]? = some (.cells [.d .nil]) := by rw [setAt_ne hne]; exact h1
  simp only [f_scan_All_1, argEnv_cons, Nat.zero_add, Nat.reduceAdd, argEnv_nil, exL_seq, exL_ops, runOps_n, evalK_mov, rd_t, get_eq, readV_ifc, spent_t, opC_ok, put_ifc, runOps_nil, thenC_nrm, evalK_bin, isC_t, isC_c, Bool.or_true, rd_c, ifc_neq, okS_some, put_d, exL_cond, readV_d, condC_b, ↓reduceIte, Nat.reduceEqDiff, get_ne, evalK_assertOk, assertV_ifc, put_tup, readV_tup, evalK_extract, extV_0, copy_d, extV_1, evalK_allocL, List.map_cons, List.map_nil, put_box, killLp_cons, killV_d, killV_tup, killV_ifc, killV_ptr, killLp_nil, evalK_store, readV_box, storeV_lp, cells_agg, List.length_cons, List.length_nil, ones_cons, vone_d, one_i, ones_nil, Bool.and_self, storeB_box, Nat.reduceLT, setCells_2, List.set_cons_zero, List.set_cons_succ, storeR_some, put_none, evalK_un, un_not, Bool.not_true, Option.map_some, Bool.false_eq_true, exL_skip, exL_opsD, runOpsD_n, evalK_fieldAddr, faV_lp, Nat.add_zero, opDC_same, putD_lp, hasNat_nil, lpD_f, putC_some, evalK_load, readV_lp, loadV_lp, Nat.reduceLeDiff, boxV_A, List.drop_zero, List.take_succ_cons, List.take_zero, copy1_d, mkAgg_eq, allD_d, allD_nil, consD_some, aggV_some, putD_d, evalK_buildSlice, dcells_agg, List.reduceReplicate, fillD_cons, fillD_nil, wfs_cons, wf_agg, dones_cons, dones_nil, wfs_nil, slO_some, putD_osl, reduceCtorEq, readV_ptr, spent_c, storeV_P, h0, one_nil, cells_d1, storeP_cells, setCells_1, storePR_some, opDC_serial, putD_none, rd_mv, takeV_osl, spent_mv, h2, cells_osl, vone_osl, runOpsD_nil]
  refine ⟨_, _, ?_, rfl⟩
  omega
theorem pre2_lt {x y a : Nat} {s : List Nat} (h : pre [x, y] (s.drop a) = true) : a + 2 ≤ s.length := by
  simp only [pre, decide_eq_true_eq] at h
  have := congrArg List.length h
  simp only [List.length_take, List.length_drop, List.length_cons, List.length_nil] at this
  omega
theorem sym_prog {s : List Nat} {j : Nat} {k : Int} {t : List Nat} {n : Int} {a' : Nat} (h : symS s j = .ok k t n a') : j < a' ∧ a' ≤ s.length ∧ k ≠ 0 := by
  unfold symS at h
  split at h
  · cases h
  · rename_i c l hL
    obtain ⟨hget, hdr, hlt⟩ := drop_c hL
    split at h
    · rename_i hc
      have hle := run_le cNm (s.drop j)
      have hk : 0 < run cNm (s.drop j) := by rw [hL]; simp [run, cNm, hc]
      simp only [List.length_drop] at hle
      unfold wordS at h
      split at h
      · cases h
      · split at h
        · cases h; exact ⟨by omega, by omega, by decide⟩
        · cases h; exact ⟨by omega, by omega, by decide⟩
    · split at h
      · rename_i hc
        have hle := run_le cHx (s.drop j)
        have hk : 0 < run cHx (s.drop j) := by rw [hL]; simp [run, cHx, hc]
        simp only [List.length_drop] at hle
        unfold numS at h
        split at h
        · rename_i hp
          have := pre1_lt hp
          unfold numR at h
          split at h
          · cases h
          · cases h; exact ⟨by omega, by omega, by decide⟩
        · split at h
          · rename_i hp
            have := pre1_lt hp
            unfold numR at h
            split at h
            · cases h
            · cases h; exact ⟨by omega, by omega, by decide⟩
          · unfold numR at h
            split at h
            · cases h
            · cases h; exact ⟨by omega, by omega, by decide⟩
      · split at h
        · unfold textS at h
          split at h
          · rename_i hp
            have := pre1_lt hp
            split at h
            · cases h
            · cases h; exact ⟨by omega, by omega, by decide⟩
          · cases h
        · unfold signS at h
          split at h
          · rename_i hp
            have := pre2_lt hp
            cases h; exact ⟨by omega, by omega, by decide⟩
          · split at h
            · rename_i hp
              have := pre2_lt hp
              cases h; exact ⟨by omega, by omega, by decide⟩
            · split at h
              · rename_i hp
                have := pre2_lt hp
                cases h; exact ⟨by omega, by omega, by decide⟩
              · split at h
                · rename_i hp
                  have := pre2_lt hp
                  cases h; exact ⟨by omega, by omega, by decide⟩
                · split at h
                  · cases h
                  · cases h; exact ⟨by omega, by omega, by decide⟩
theorem next_prog {s : List Nat} {a : Nat} (ha : a ≤ s.length) {k : Int} {p e : Nat} {t : List Nat} {n : Int} (h : nextS s a = .ok k p e t n) : a ≤ p ∧ p ≤ e ∧ e ≤ s.length ∧ (k ≠ 0 → a < e) := by
  unfold nextS at h
  split at h
  · cases h
  · rename_i j hj
    have hjl := sk_le (s.drop a).length 0 a a (s.drop a) j (Nat.le_refl _) hj
    simp only [List.length_drop] at hjl
    split at h
    · cases h
      exact ⟨by omega, by omega, by omega, fun h => absurd rfl h⟩
    · generalize hr : symS s j = r at h
      cases r with
      | ok k' t' n' a' =>
        have := sym_prog hr
        simp only [nxOf] at h
        cases h
        exact ⟨by omega, by omega, by omega, fun _ => by omega⟩
      | bad e => simp only [nxOf] at h; cases h
def ARes (b : Nat) (r : Sum (Nat × Int) (List Tk)) (X : Option (Ex × St)) : Prop :=
  match r with
  | .inr L' => ∃ e H' lo', b ≤ lo' ∧ get 2 e = .ptr b 0 ∧ get 3 e = .ptr (b + 1) 0 ∧ H'[b]? = some (.cells [.d (slD eTk L')]) ∧ H'[b + 1]? = some (.cells [.d .nil]) ∧ X = some (.ret, ⟨e, H', lo'⟩)
  | .inl (p, x) => ∃ e H' lo' v, b ≤ lo' ∧ get 2 e = .ptr b 0 ∧ get 3 e = .ptr (b + 1) 0 ∧ H'[b]? = some (.cells [v]) ∧ H'[b + 1]? = some (.cells [.d .nil]) ∧ X = some (.pan (.ifc 66 (.d (.agg [.i .i64 (p : Nat), .i .i64 x]))), ⟨e, H', lo'⟩)
theorem ARes.good {b : Nat} {L' : List Tk} {e : Env} {H' : List Obj} {lo' : Nat} {X : Option (Ex × St)} (h5 : X = some (.ret, ⟨e, H', lo'⟩)) (h1 : b ≤ lo') (h2 : get 2 e = .ptr b 0) (h3 : get 3 e = .ptr (b + 1) 0) (h4 : H'[b]? = some (.cells [.d (slD eTk L')])) (h6 : H'[b + 1]? = some (.cells [.d .nil])) : ARes b (.inr L') X :=
  ⟨e, H', lo', h1, h2, h3, h4, h6, h5⟩
theorem ARes.bad {b p : Nat} {x : Int} {e : Env} {H' : List Obj} {lo' : Nat} {v : V} {X : Option (Ex × St)} (h5 : X = some (.pan (.ifc 66 (.d (.agg [.i .i64 (p : Nat), .i .i64 x]))), ⟨e, H', lo'⟩)) (h1 : b ≤ lo') (h2 : get 2 e = .ptr b 0) (h3 : get 3 e = .ptr (b + 1) 0) (h4 : H'[b]? = some (.cells [v])) (h6 : H'[b + 1]? = some (.cells [.d .nil])) : ARes b (.inl (p, x)) X :=
  ⟨e, H', lo', v, h1, h2, h3, h4, h6, h5⟩
theorem all_loop {s : List Nat} (hs : ∀ c ∈ s, c < 256) (hz : s.length ≤ 1000000) {b : Nat} :
    ∀ (f a : Nat) (L : List Tk) (H : List Obj) (lo : Nat), s.length - a < f → a ≤ s.length → L.length ≤ a → b ≤ lo → lo ≤ H.length → H[b]? = some (.cells [slV eTk L]) → H[b + 1]? = some (.cells [.d .nil]) → H[b + 2]? = some (sc s a) →
      ARes b (scanF s f a L) (blockC 0 [2, 3] (f_scan_All_l0 pg (.ptr b 0) (.ptr (b + 1) 0) (.ptr (b + 2) 0) H lo)) := by
  intro f
  induction f with
  | zero => intro a L H lo h; omega
  | succ f ih =>
    intro a L H lo hf ha hLa hlo hloH h0 h1 h2
    have hn := next_call hs hz ha h2
    rw [f_scan_All_l0_eq, scanF]
    have d1 : (b = b + 2) = False := by simp
    have d2 : (b + 1 = b + 2) = False := by simp
    generalize hr : nextS s a = r at hn
    cases r with
    | bad p x =>
      obtain ⟨sm, lo1, a', g1, g2, g3, hc⟩ := hn
      have e0 : (setAt H (b + 2) (sc s a'))[b]? = some (.cells [slV eTk L]) := by rw [setAt_ne d1]; exact h0
      have e1 : (setAt H (b + 2) (sc s a'))[b + 1]? = some (.cells [.d .nil]) := by rw [setAt_ne d2]; exact h1
      refine ARes.bad (e := ?e) (lo' := min lo lo1) ?h5 (by omega) ?g2 ?g3 e0 e1
      case h5 =>
        simp only [f_scan_All_B0, keepV_ptr, exL_block, exL_seq, exL_ops, runOps_n, evalK_mov, rd_t, Nat.reduceEqDiff, get_ne, get_eq, readV_ptr, spent_t, opC_ok, put_ptr, evalK_call, List.map_cons, List.map_nil, allLeave_cons, leaves_ptr, allLeave_nil, Bool.and_self, eCall_f, hc, callC_some, spentAll_cons, spentAll_nil, opC_pan, thenC_pan, blockC_pan]
        rfl
      case g2 => rfl
      case g3 => rfl
    | ok k p e t n =>
      obtain ⟨sm, lo1, g1, g2, g3, hc⟩ := hn
      have hpr := next_prog ha hr
      have e0 : (setAt H (b + 2) (sc s e))[b]? = some (.cells [slV eTk L]) := by rw [setAt_ne d1]; exact h0
      have e1 : (setAt H (b + 2) (sc s e))[b + 1]? = some (.cells [.d .nil]) := by rw [setAt_ne d2]; exact h1
      have e2 : (setAt H (b + 2) (sc s e))[b + 2]? = some (sc s e) := setAt_get h2
      have d3 : (b + 1 = b) = False := by simp
      have d4 : (b + 2 = b) = False := by simp
      have e3 : (setAt (setAt H (b + 2) (sc s e)) b (.cells [.undef]))[b]? = some (.cells [.undef]) := setAt_get e0
      have happ : appendV 5 48 (slV eTk L) (.d (.sl [.agg [.i .i64 k, .i .i64 p, .i .i64 e, .s t, .i .i32 n]])) = some (slV eTk (L ++ [⟨k, p, e, t, n⟩])) :=
        app_slV1 (x := (⟨k, p, e, t, n⟩ : Tk)) (fun _ => rfl) (roomy_of (by omega) (by omega))
      simp only [tok] at hc
      have e4 : ∀ o, (setAt (setAt H (b + 2) (sc s e)) b o)[b]? = some o := fun o => setAt_get e0
      have e5 : ∀ o, (setAt (setAt H (b + 2) (sc s e)) b o)[b + 1]? = some (.cells [.d .nil]) := fun o => by rw [setAt_ne d3]; exact e1
      have e6 : ∀ o, (setAt (setAt H (b + 2) (sc s e)) b o)[b + 2]? = some (sc s e) := fun o => by rw [setAt_ne d4]; exact e2
      by_cases hk : k = 0
      · subst hk
        have d5 : (b = b + 1) = False := by simp
        simp only [if_true]
        have key : ∃ e', blockC 0 [2, 3] (thenC pg (exL pg f_scan_All_B0 ⟨[(2, keepV (.ptr b 0)), (3, keepV (.ptr (b + 1) 0)), (4, keepV (.ptr (b + 2) 0))], H, lo⟩) f_scan_All_L0) = some (.ret, ⟨e', setAt (setAt (setAt H (b + 2) (sc s e)) b (.cells [.d (slD eTk (L ++ [⟨0, p, e, t, n⟩]))])) (b + 1) (.cells [.d .nil]), min (min (min (min (min lo lo1) b) b) b) (b + 1)⟩) ∧ get 2 e' = .ptr b 0 ∧ get 3 e' = .ptr (b + 1) 0 := by
          simp only [f_scan_All_B0, keepV_ptr, exL_block, exL_seq, exL_ops, runOps_n, evalK_mov, rd_t, Nat.reduceEqDiff, get_ne, get_eq, readV_ptr, spent_t, opC_ok, put_ptr, evalK_call, List.map_cons, List.map_nil, allLeave_cons, leaves_ptr, allLeave_nil, Bool.and_self, eCall_f, hc, callC_some, spentAll_cons, spentAll_nil, put_d, evalK_allocL, put_box, killLp_cons, killV_d, killV_ptr, killLp_nil, evalK_store, rd_mv, takeV_d, readV_box, spent_mv, storeV_lp, cells_agg, List.length_cons, List.length_nil, Nat.zero_add, Nat.reduceAdd, ones_cons, vone_d, one_i, one_s, ones_nil, storeB_box, setCells_all, storeR_some, put_none, runOps_nil, thenC_nrm, evalK_loadMv, e0, List.getElem?_cons_zero, List.set_cons_zero, put_slV, evalK_load, loadV_lp, Nat.reduceLeDiff, boxV_A, List.drop_zero, List.take_succ_cons, List.take_zero, copy1_d, mkAgg_eq, allD_d, allD_nil, consD_some, aggV_some, okS_some, evalK_buildSlice, dcells_agg, List.reduceReplicate, readV_d, Nat.reduceLT, fillD_cons, fillD_nil, wfs_cons, wf_agg, dones_cons, dones_nil, wfs_nil, slO_some, put_osl, evalK_append, takeV_slV, readV_osl, happ, appO_some, storeV_P, e3, cells_slV, vone_slV, storeP_cells, setCells_1, storePR_some, setAt_setAt, evalK_fieldAddr, faV_lp, Nat.add_zero, put_lp, readV_lp, boxV_1, Option.map_some, evalK_bin, isC_t, isC_c, Bool.or_true, rd_c, bin_eql, decide_true, exL_cond, condC_b, ↓reduceIte, loadV_ptr, e4, cellV_1, copy1_slV, one_slD, cells_d1, spent_c, e5, one_nil, exL_ret, blockC_ret, thenC_ret]
          exact ⟨_, rfl, rfl, rfl⟩
        obtain ⟨e', k1, k2, k3⟩ := key
        exact ARes.good k1 (by omega) k2 k3 (by rw [setAt_ne d5]; exact e4 _) (setAt_get (e5 _))
      · have q1 : (k = 0) = False := eq_false hk
        simp only [hk, if_false]
        have ih' := ih e (L ++ [⟨k, p, e, t, n⟩]) (setAt (setAt H (b + 2) (sc s e)) b (.cells [slV eTk (L ++ [⟨k, p, e, t, n⟩])])) (min (min (min lo lo1) b) b) (by omega) (by omega) (by simp only [List.length_append, List.length_cons, List.length_nil]; omega) (by omega) (by simp only [setAt_length]; omega) (e4 _) (e5 _) (e6 _)
        simp only [f_scan_All_B0, keepV_ptr, exL_block, exL_seq, exL_ops, runOps_n, evalK_mov, rd_t, Nat.reduceEqDiff, get_ne, get_eq, readV_ptr, spent_t, opC_ok, put_ptr, evalK_call, List.map_cons, List.map_nil, allLeave_cons, leaves_ptr, allLeave_nil, Bool.and_self, eCall_f, hc, callC_some, spentAll_cons, spentAll_nil, put_d, evalK_allocL, put_box, killLp_cons, killV_d, killV_ptr, killLp_nil, evalK_store, rd_mv, takeV_d, readV_box, spent_mv, storeV_lp, cells_agg, List.length_cons, List.length_nil, Nat.zero_add, Nat.reduceAdd, ones_cons, vone_d, one_i, one_s, ones_nil, storeB_box, setCells_all, storeR_some, put_none, runOps_nil, thenC_nrm, evalK_loadMv, e0, List.getElem?_cons_zero, List.set_cons_zero, put_slV, evalK_load, loadV_lp, Nat.reduceLeDiff, boxV_A, List.drop_zero, List.take_succ_cons, List.take_zero, copy1_d, mkAgg_eq, allD_d, allD_nil, consD_some, aggV_some, okS_some, evalK_buildSlice, dcells_agg, List.reduceReplicate, readV_d, Nat.reduceLT, fillD_cons, fillD_nil, wfs_cons, wf_agg, dones_cons, dones_nil, wfs_nil, slO_some, put_osl, evalK_append, takeV_slV, readV_osl, happ, appO_some, storeV_P, e3, cells_slV, vone_slV, storeP_cells, setCells_1, storePR_some, setAt_setAt, evalK_fieldAddr, faV_lp, Nat.add_zero, put_lp, readV_lp, boxV_1, Option.map_some, evalK_bin, isC_t, isC_c, Bool.or_true, rd_c, bin_eql, q1, decide_false, exL_cond, condC_b, Bool.false_eq_true, ↓reduceIte, exL_skip, blockC_nrm, restrict_cons, restrict_nil, f_scan_All_l0_in]
        exact ih'
theorem deferred_ret {pg : Pg} {fn : Fn} {H : List Obj} {t hd : Nat} {first cap : List V} {rest : C} {st st' : St} (h : get t st.env = .fn hd first cap) (hk : V.ok.oks (first ++ cap) = true) (hx : exL pg rest st = some (.ret, st')) : deferred pg (exL pg) fn H t rest st = handle pg (exL pg) fn H hd (first ++ cap) (.d .ni) st' := by
  simp only [deferred, h, hk, hx, cond_true]
theorem deferred_pan {pg : Pg} {fn : Fn} {H : List Obj} {t hd : Nat} {first cap : List V} {rest : C} {st st' : St} {v : V} (h : get t st.env = .fn hd first cap) (hk : V.ok.oks (first ++ cap) = true) (hx : exL pg rest st = some (.pan v, st')) (hv : isIfc v = true) : deferred pg (exL pg) fn H t rest st = handle pg (exL pg) fn H hd (first ++ cap) v st' := by
  simp only [deferred, h, hk, hx, hv, cond_true]
theorem handle_nrm {pg : Pg} {fn hf : Fn} {H : List Obj} {hd d : Nat} {vs : List V} {v : V} {st st' : St} (h1 : pg.fn hd = some hf) (h2 : hf.rcv = some d) (h3 : (Nat.beq hf.np vs.length && hf.res.isEmpty) = true) (hx : exL pg hf.body ⟨(d, v) :: argEnv 0 vs, st.H, st.lo⟩ = some (.nrm, st')) :
    handle pg (exL pg) fn H hd vs v st = endCall fn H ⟨st.env, st'.H, st'.lo⟩ := by
  simp only [handle, h1, h2, h3, hx, cond_true]
theorem D_run {s : List Nat} (hs : ∀ c ∈ s, c < 256) (hz : s.length ≤ 1000000) {H : List Obj} {e : Env} (g0 : get 0 e = .d (.s s)) (g2 : get 2 e = .ptr H.length 0) (g3 : get 3 e = .ptr (H.length + 1) 0) :
    ARes H.length (scanF s (s.length + 1) 0 []) (exL pg f_scan_All_D ⟨e, H ++ [.cells [.d .nil]] ++ [.cells [.d .nil]], H.length⟩) := by
  have hl := all_loop hs hz (b := H.length) (s.length + 1) 0 [] (H ++ [.cells [.d .nil]] ++ [.cells [.d .nil]] ++ [sc s 0]) H.length (by omega) (by omega) (by simp) (Nat.le_refl _) (by simp) (by simp [slV]) (by simp) (by simp)
  have hz0 : ((0 : Nat) : Int) = 0 := rfl
  have hs0 : slV eTk [] = .d .nil := rfl
  simp only [f_scan_All_D, exL_seq, exL_skip, thenC_nrm, exL_ops, runOps_n, evalK_mov, rd_t, g0, readV_d, spent_t, opC_ok, put_d, evalK_build, List.map_cons, List.map_nil, get_eq, one_s, cells_d1, vone_d, List.length_cons, List.length_nil, Nat.zero_add, Nat.reduceAdd, Nat.reduceLT, fillC_1, List.set_cons_zero, fillC_nil, aggO_some, mkAgg_eq, allD_d, allD_nil, consD_some, aggV_some, okS_some, evalK_box, cells_agg, ones_cons, one_i, ones_nil, Bool.and_self, boxN_f, List.length_append, put_ptr, readV_ptr, runOps_nil, exL_block, f_scan_All_l0_in, Nat.reduceEqDiff, get_ne, g2, keepV_ptr, g3]
  exact hl
theorem all_call {s : List Nat} (hs : ∀ c ∈ s, c < 256) (hz : s.length ≤ 1000000) {H : List Obj} :
    ∃ lo, H.length ≤ lo ∧ callL pg 16 [.d (.s s)] H = some ⟨false, true, (if 20000 < s.length then .tup [.d .nil, .d (.sl [.agg [.i .i64 20000, .i .i64 34]])] else match scanF s (s.length + 1) 0 [] with
      | .inr L => .tup [.d (slD eTk L), .d .nil]
      | .inl (p, x) => .tup [.d .nil, .d (.sl [.agg [.i .i64 (p : Nat), .i .i64 x]])]), H, lo⟩ := by
  rw [callL_fnD (fn := f_scan_All) rfl rfl rfl rfl]
  have a0 : (H ++ [Obj.cells [.d .nil]])[H.length]? = some (.cells [.d .nil]) := by simp
  have a1 : ((H ++ [Obj.cells [.d .nil]]) ++ [Obj.cells [.d .nil]])[H.length]? = some (.cells [.d .nil]) := by simp
  have a2 : ((H ++ [Obj.cells [.d .nil]]) ++ [Obj.cells [.d .nil]])[H.length + 1]? = some (.cells [.d .nil]) := by simp
  have d3 : (H.length + 1 = H.length) = False := by simp
  have d5 : (H.length = H.length + 1) = False := by simp
  have b1 : ∀ o, (setAt ((H ++ [Obj.cells [.d .nil]]) ++ [Obj.cells [.d .nil]]) H.length o)[H.length + 1]? = some (.cells [.d .nil]) := fun o => by rw [setAt_ne d3]; exact a2
  have b2 : ∀ o o', (setAt (setAt ((H ++ [Obj.cells [.d .nil]]) ++ [Obj.cells [.d .nil]]) H.length o) (H.length + 1) o')[H.length]? = some o := fun o o' => by rw [setAt_ne d5]; exact setAt_get a1
  have b3 : ∀ o o', (setAt (setAt ((H ++ [Obj.cells [.d .nil]]) ++ [Obj.cells [.d .nil]]) H.length o) (H.length + 1) o')[H.length + 1]? = some o' := fun o o' => setAt_get (b1 o)
  by_cases h1 : 20000 < s.length
  · have e1 : ((20000 : Int) < (s.length : Int)) = True := by rw [eq_iff_iff]; simp; omega
    rw [if_pos h1]
    simp only [f_scan_All, argEnv_cons, Nat.zero_add, argEnv_nil, exL_seq, exL_ops, runOps_n, evalK_alloc, List.map_cons, List.map_nil, opC_ok, put_ptr, List.length_append, List.length_cons, List.length_nil, runOps_nil, thenC_nrm, evalK_mov, rd_t, reduceCtorEq, get_ne, get_eq, readV_d, spent_t, put_d, evalK_lenS, lenS_s, okS_some, evalK_bin, isC_t, isC_c, Bool.or_true, rd_c, bin_gtr, e1, decide_true, exL_cond, condC_b, ↓reduceIte, evalK_build, one_i, cells_d1, vone_d, Nat.reduceAdd, Nat.reduceLT, fillC_1, List.set_cons_zero, List.set_cons_succ, fillC_nil, aggO_some, mkAgg_eq, allD_d, allD_nil, consD_some, aggV_some, evalK_buildSlice, dcells_agg, List.reduceReplicate, fillD_cons, fillD_nil, wfs_cons, wf_agg, dones_cons, dones_nil, Bool.and_self, wfs_nil, slO_some, put_osl, evalK_store, Nat.reduceEqDiff, readV_ptr, spent_c, storeV_P, a1, one_nil, ones_cons, ones_nil, storeP_cells, setCells_1, storePR_some, Nat.min_self, put_none, rd_mv, takeV_osl, spent_mv, b1, cells_osl, vone_osl, exL_ret, thenC_ret, defC_ret, endCall_fin, finC_ret, resultVs_cons, resultV_cell, resC_ptr, loadV_ptr, b2, cellV_1, List.getElem?_cons_zero, Option.map_some, copy1_d, b3, copy1_osl, resultVs_nil, consO_some, leaveC_2]
    refine ⟨_, ?_, leave_same rfl (Nat.zero_le _) (by simp only; omega)⟩
    simp only; omega
  · have e1 : ((20000 : Int) < (s.length : Int)) = False := by rw [eq_iff_iff]; simp; omega
    rw [if_neg h1]
    have hb : ∃ e, get 0 e = .d (.s s) ∧ get 2 e = .ptr H.length 0 ∧ get 3 e = .ptr (H.length + 1) 0 ∧ get 11 e = .fn 27 [] [.ptr H.length 0, .ptr (H.length + 1) 0] ∧ exL pg f_scan_All.body ⟨argEnv 0 [.d (.s s)], H, H.length⟩ = some (.nrm, ⟨e, H ++ [.cells [.d .nil]] ++ [.cells [.d .nil]], H.length⟩) := by
      simp only [f_scan_All, argEnv_cons, Nat.zero_add, argEnv_nil, exL_seq, exL_ops, runOps_n, evalK_alloc, List.map_cons, List.map_nil, opC_ok, put_ptr, List.length_append, List.length_cons, List.length_nil, runOps_nil, thenC_nrm, evalK_mov, rd_t, reduceCtorEq, get_ne, get_eq, readV_d, spent_t, put_d, evalK_lenS, lenS_s, okS_some, evalK_bin, isC_t, isC_c, Bool.or_true, rd_c, bin_gtr, e1, decide_false, exL_cond, condC_b, Bool.false_eq_true, ↓reduceIte, exL_skip, evalK_mkFn, Nat.reduceEqDiff, readV_ptr, oks_nil, oks_cons, ok_ptr, Bool.and_self, mkFnV_ok, put_fn]
      exact ⟨_, rfl, rfl, rfl, rfl, rfl⟩
    obtain ⟨e, g0, g2, g3, g11, hb⟩ := hb
    rw [hb, defC_nrm]
    have hD := D_run hs hz g0 g2 g3
    generalize scanF s (s.length + 1) 0 [] = r at hD
    cases r with
    | inr L =>
      obtain ⟨e', H', lo', k1, k2, k3, k4, k5, k6⟩ := hD
      rw [deferred_ret g11 rfl k6]
      obtain ⟨e2, hh⟩ := all1_ni (i0 := H.length) (i1 := H.length + 1) (H := H') (lo := lo')
      rw [handle_nrm (hf := f_scan_All_1) (d := 5) rfl rfl rfl hh, endCall_fin]
      have hr : f_scan_All.res = [.cell 2 ⟨1, false⟩, .cell 3 ⟨1, false⟩] := rfl
      have ho : f_scan_All.own = false := rfl
      simp only [ho, hr, finC_ret, resultVs_cons, resultV_cell, k2, resC_ptr, loadV_ptr, k4, cellV_1, List.getElem?_cons_zero, Option.map_some, copy1_d, k3, k5, resultVs_nil, consO_some, leaveC_2]
      exact ⟨_, k1, leave_same rfl (Nat.zero_le _) k1⟩
    | inl q =>
      obtain ⟨p, x⟩ := q
      obtain ⟨e', H', lo', v, k1, k2, k3, k4, k5, k6⟩ := hD
      rw [deferred_pan g11 rfl k6 rfl]
      obtain ⟨e2, lo2, hlo, hh⟩ := all1_bad (p := (p : Int)) (e := x) (lo := lo') k4 k5 d3
      rw [handle_nrm (hf := f_scan_All_1) (d := 5) rfl rfl rfl hh, endCall_fin]
      have hr : f_scan_All.res = [.cell 2 ⟨1, false⟩, .cell 3 ⟨1, false⟩] := rfl
      have ho : f_scan_All.own = false := rfl
      have q1 : (setAt H' H.length (.cells [.d .nil]))[H.length + 1]? = some (.cells [.d .nil]) := by rw [setAt_ne d3]; exact k5
      have q2 : ∀ o', (setAt (setAt H' H.length (.cells [.d .nil])) (H.length + 1) o')[H.length]? = some (.cells [.d .nil]) := fun o' => by rw [setAt_ne d5]; exact setAt_get k4
      have q3 : ∀ o', (setAt (setAt H' H.length (.cells [.d .nil])) (H.length + 1) o')[H.length + 1]? = some o' := fun o' => setAt_get q1
      simp only [ho, hr, finC_ret, resultVs_cons, resultV_cell, k2, resC_ptr, loadV_ptr, q2, cellV_1, List.getElem?_cons_zero, Option.map_some, copy1_d, k3, q3, copy1_osl, resultVs_nil, consO_some, leaveC_2]
      refine ⟨_, ?_, leave_same rfl (Nat.zero_le _) (by simp only; omega)⟩
      simp only; omega
end W

