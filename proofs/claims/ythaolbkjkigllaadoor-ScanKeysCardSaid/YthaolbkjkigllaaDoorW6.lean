/-
  ScanKeys: which words are keywords. For every two bytes, cut or not.: part 6 of what the proof rests on (a value semantics for a part of the language, sound against the model; the walks).
-/
import Derived.Test.YthaolbkjkigllaaDoorW5
set_option linter.unusedSimpArgs false
set_option linter.unusedVariables false
namespace W
open Go (IntKind BinOp UnOp)
set_option maxRecDepth 20000
theorem rletter_call {c : Nat} {H : List Obj} : callL pg 35 [.d (.i .u8 c)] H = some ⟨false, true, .d (.b (cLt c)), H, H.length⟩ := by
  rw [callL_fn (fn := f_waferref11_letter) rfl rfl]
  have e1 : ((97 : Int) ≤ (c : Int)) = (97 ≤ c) := by rw [eq_iff_iff]; omega
  have e2 : ((c : Int) ≤ 122) = (c ≤ 122) := by rw [eq_iff_iff]; omega
  have e3 : ((65 : Int) ≤ (c : Int)) = (65 ≤ c) := by rw [eq_iff_iff]; omega
  have e4 : ((c : Int) ≤ 90) = (c ≤ 90) := by rw [eq_iff_iff]; omega
  by_cases h1 : 97 ≤ c <;> by_cases h2 : c ≤ 122 <;> by_cases h3 : 65 ≤ c <;> by_cases h4 : c ≤ 90
  all_goals simp only [f_waferref11_letter, argEnv_cons, Nat.zero_add, argEnv_nil, exL_seq, exL_ops, runOps_n, evalK_mov, rd_c, spent_c, opC_ok, put_d, runOps_nil, thenC_nrm, rd_t, reduceCtorEq, get_ne, get_eq, readV_d, spent_t, evalK_bin, isC_t, isC_c, Bool.or_true, bin_geq, e1, h1, decide_true, okS_some, runOps_g, wantG_bt, wantC_b, ↓reduceIte, Nat.reduceEqDiff, bin_leq, e2, h2, evalK_pick, pickV_b, wantG_bf, Bool.not_true, Bool.false_eq_true, put_tup, wantG_t, readV_tup, pickV_t, exL_ret, finC_ret, resultVs_cons, resultV_t, ownV_d, resultVs_nil, consO_some, leaveC_1, leaves_d, ref_d, settle_d, leave_pure, cLt, Bool.and_self, h3, h4, Bool.or_self, decide_false, Bool.and_false, Bool.or_false, Bool.and_true, Bool.not_false, e3, e4, pickV_f]
  all_goals rfl
theorem rdigit_call {c : Nat} {H : List Obj} : callL pg 36 [.d (.i .u8 c)] H = some ⟨false, true, .d (.b (cDg c)), H, H.length⟩ := by
  rw [callL_fn (fn := f_waferref11_digit) rfl rfl]
  have e1 : ((48 : Int) ≤ (c : Int)) = (48 ≤ c) := by rw [eq_iff_iff]; omega
  have e2 : ((c : Int) ≤ 57) = (c ≤ 57) := by rw [eq_iff_iff]; omega
  by_cases h1 : 48 ≤ c <;> by_cases h2 : c ≤ 57
  all_goals simp only [f_waferref11_digit, argEnv_cons, Nat.zero_add, argEnv_nil, exL_seq, exL_ops, runOps_n, evalK_mov, rd_c, spent_c, opC_ok, put_d, runOps_nil, thenC_nrm, rd_t, reduceCtorEq, get_ne, get_eq, readV_d, spent_t, evalK_bin, isC_t, isC_c, Bool.or_true, bin_geq, e1, h1, decide_true, okS_some, runOps_g, wantG_bt, wantC_b, ↓reduceIte, Nat.reduceEqDiff, bin_leq, e2, h2, evalK_pick, pickV_b, exL_ret, finC_ret, resultVs_cons, resultV_t, ownV_d, resultVs_nil, consO_some, leaveC_1, leaves_d, ref_d, settle_d, leave_pure, cDg, Bool.and_self, decide_false, Bool.and_false, Bool.false_eq_true, put_tup, readV_tup, pickV_f, Bool.and_true]
  all_goals rfl
theorem blank_call {c : Nat} {H : List Obj} : callL pg 34 [.d (.i .u8 c)] H = some ⟨false, true, .d (.b (blk c)), H, H.length⟩ := by
  rw [callL_fn (fn := f_waferref11_blank) rfl rfl]
  have e1 : ((c : Int) = 9) = (c = 9) := by rw [eq_iff_iff]; omega
  have e2 : ((c : Int) = 10) = (c = 10) := by rw [eq_iff_iff]; omega
  have e3 : ((c : Int) = 13) = (c = 13) := by rw [eq_iff_iff]; omega
  have e4 : ((c : Int) = 32) = (c = 32) := by rw [eq_iff_iff]; omega
  by_cases h1 : c = 9 <;> by_cases h2 : c = 10 <;> by_cases h3 : c = 13 <;> by_cases h4 : c = 32
  all_goals simp only [f_waferref11_blank, h1, Int.cast_ofNat_Int, argEnv_cons, Nat.zero_add, argEnv_nil, exL_seq, exL_ops, runOps_n, evalK_mov, rd_c, spent_c, opC_ok, put_d, runOps_nil, thenC_nrm, rd_t, reduceCtorEq, get_ne, get_eq, readV_d, spent_t, evalK_bin, isC_t, isC_c, Bool.or_true, bin_eql, decide_true, okS_some, runOps_g, wantG_bf, Bool.not_true, wantC_b, Bool.false_eq_true, ↓reduceIte, put_tup, Nat.reduceEqDiff, evalK_pick, readV_tup, pickV_t, exL_ret, finC_ret, resultVs_cons, resultV_t, ownV_d, resultVs_nil, consO_some, leaveC_1, leaves_d, ref_d, settle_d, leave_pure, blk, decide_false, Bool.or_false, h2, Int.reduceEq, Bool.not_false, pickV_b, h3, Bool.or_self, h4, e1, e2, e3, e4]
  all_goals rfl
theorem rhex_call {c : Nat} {H : List Obj} : callL pg 57 [.d (.i .u8 c)] H = some ⟨false, true, .d (.i .i64 (if cHx c = true then (dg c : Int) else -1)), H, H.length⟩ := by
  rw [callL_fn (fn := f_waferref11_hex) rfl rfl]
  have e1 : ((65 : Int) ≤ (c : Int)) = (65 ≤ c) := by rw [eq_iff_iff]; omega
  have e2 : ((c : Int) ≤ 70) = (c ≤ 70) := by rw [eq_iff_iff]; omega
  have hd := rdigit_call (c := c) (H := H)
  cases hq : cDg c with
  | true =>
    rw [hq] at hd
    have hh : cHx c = true := by simp [cHx, hq]
    have hr : 48 ≤ c ∧ c ≤ 57 := by simpa [cDg] using hq
    have e3 : wr .u8 ((c : Int) - 48) = (dg c : Int) := by rw [wr_u8 (by omega) (by omega)]; simp only [dg, hr.2, if_true]; omega
    have e4 : wr .i64 (dg c : Int) = (dg c : Int) := by rw [wr_i64 (by omega) (by unfold dg; split <;> omega)]
    rw [hh]
    simp only [f_waferref11_hex, Int.reduceNeg, argEnv_cons, Nat.zero_add, argEnv_nil, exL_seq, exL_ops, runOps_n, evalK_mov, rd_c, spent_c, opC_ok, put_d, runOps_nil, thenC_nrm, exL_block, rd_t, reduceCtorEq, get_ne, get_eq, readV_d, spent_t, evalK_call, List.map_cons, List.map_nil, allLeave_cons, leaves_d, allLeave_nil, Bool.and_self, eCall_f, hd, callC_some, spentAll_cons, spentAll_nil, Nat.min_self, rd_mv, takeV_d, spent_mv, exL_cond, condC_b, ↓reduceIte, evalK_bin, isC_t, isC_c, Bool.or_true, bin_sub, e3, okS_some, evalK_conv, e4, exL_ret, blockC_ret, thenC_ret, finC_ret, resultVs_cons, resultV_t, ownV_d, resultVs_nil, consO_some, leaveC_1, ref_d, settle_d, leave_pure]
    all_goals rfl
  | false =>
    rw [hq] at hd
    by_cases h1 : 65 ≤ c ∧ c ≤ 70
    · have hh : cHx c = true := by simp [cHx, h1]
      have e3 : wr .u8 ((c : Int) - 65) = ((c - 65 : Nat) : Int) := by rw [wr_u8 (by omega) (by omega)]; omega
      have e4 : wr .i64 ((c - 65 : Nat) : Int) = ((c - 65 : Nat) : Int) := by rw [wr_i64 (by omega) (by omega)]
      have e5 : wr .i64 (((c - 65 : Nat) : Int) + 10) = (dg c : Int) := by
        have : ¬ c ≤ 57 := by omega
        rw [wr_i64 (by omega) (by omega)]; simp only [dg, this, if_false]; omega
      rw [hh]
      simp only [f_waferref11_hex, Int.reduceNeg, argEnv_cons, Nat.zero_add, argEnv_nil, exL_seq, exL_ops, runOps_n, evalK_mov, rd_c, spent_c, opC_ok, put_d, runOps_nil, thenC_nrm, exL_block, rd_t, reduceCtorEq, get_ne, get_eq, readV_d, spent_t, evalK_call, List.map_cons, List.map_nil, allLeave_cons, leaves_d, allLeave_nil, Bool.and_self, eCall_f, hd, callC_some, spentAll_cons, spentAll_nil, Nat.min_self, rd_mv, takeV_d, spent_mv, exL_cond, condC_b, Bool.false_eq_true, ↓reduceIte, evalK_bin, isC_t, isC_c, Bool.or_true, bin_geq, e1, h1.1, decide_true, okS_some, runOps_g, wantG_bt, wantC_b, Nat.reduceEqDiff, bin_leq, e2, h1.2, evalK_pick, pickV_b, bin_sub, e3, evalK_conv, e4, bin_add, e5, exL_ret, blockC_ret, thenC_ret, finC_ret, resultVs_cons, resultV_t, ownV_d, resultVs_nil, consO_some, leaveC_1, ref_d, settle_d, leave_pure]
      all_goals rfl
    · have hh : cHx c = false := by simp only [cHx, hq, Bool.false_or]; simpa using h1
      rw [hh]
      by_cases h2 : 65 ≤ c
      · have h3 : (c ≤ 70) = False := eq_false (fun h => h1 ⟨h2, h⟩)
        simp only [f_waferref11_hex, Int.reduceNeg, argEnv_cons, Nat.zero_add, argEnv_nil, exL_seq, exL_ops, runOps_n, evalK_mov, rd_c, spent_c, opC_ok, put_d, runOps_nil, thenC_nrm, exL_block, rd_t, reduceCtorEq, get_ne, get_eq, readV_d, spent_t, evalK_call, List.map_cons, List.map_nil, allLeave_cons, leaves_d, allLeave_nil, Bool.and_self, eCall_f, hd, callC_some, spentAll_cons, spentAll_nil, Nat.min_self, rd_mv, takeV_d, spent_mv, exL_cond, condC_b, Bool.false_eq_true, ↓reduceIte, evalK_bin, isC_t, isC_c, Bool.or_true, bin_geq, e1, h2, decide_true, okS_some, runOps_g, wantG_bt, wantC_b, Nat.reduceEqDiff, bin_leq, e2, h3, decide_false, evalK_pick, pickV_b, exL_skip, blockC_nrm, restrict_nil, exL_ret, finC_ret, resultVs_cons, resultV_t, ownV_d, resultVs_nil, consO_some, leaveC_1, ref_d, settle_d, leave_pure]
        all_goals rfl
      · simp only [f_waferref11_hex, Int.reduceNeg, argEnv_cons, Nat.zero_add, argEnv_nil, exL_seq, exL_ops, runOps_n, evalK_mov, rd_c, spent_c, opC_ok, put_d, runOps_nil, thenC_nrm, exL_block, rd_t, reduceCtorEq, get_ne, get_eq, readV_d, spent_t, evalK_call, List.map_cons, List.map_nil, allLeave_cons, leaves_d, allLeave_nil, Bool.and_self, eCall_f, hd, callC_some, spentAll_cons, spentAll_nil, Nat.min_self, rd_mv, takeV_d, spent_mv, exL_cond, condC_b, Bool.false_eq_true, ↓reduceIte, evalK_bin, isC_t, isC_c, Bool.or_true, bin_geq, e1, h2, decide_false, okS_some, runOps_g, wantG_bt, wantC_b, put_tup, Nat.reduceEqDiff, evalK_pick, readV_tup, pickV_f, exL_skip, blockC_nrm, restrict_nil, exL_ret, finC_ret, resultVs_cons, resultV_t, ownV_d, resultVs_nil, consO_some, leaveC_1, ref_d, settle_d, leave_pure]
        all_goals rfl
theorem rhas_loop {s : List Nat} {c : Nat} (hz : s.length ≤ 1000000) {H : List Obj} :
    ∀ (k i : Nat), s.length - i = k → i ≤ s.length → ∃ x e, (x = .nrm ∨ x = .ret) ∧ get 4 e = .d (.b (decide (c ∈ s.drop i))) ∧
      thenC pg (blockC 0 [] (f_waferref11_has_l0 pg (.d (.s s)) (.d (.i .u8 (c : Nat))) (.d (.i .i64 (i : Nat))) H H.length)) f_waferref11_has_R1 = some (x, ⟨e, H, H.length⟩) := by
  intro k
  induction k with
  | zero =>
    intro i hk hi
    obtain rfl : i = s.length := by omega
    have h1 : ((s.length : Int) < (s.length : Int)) = False := by simp
    rw [f_waferref11_has_l0_eq]
    simp only [f_waferref11_has_B0, keepV_d, exL_seq, exL_ops, runOps_n, evalK_mov, rd_t, reduceCtorEq, get_ne, Nat.reduceEqDiff, get_eq, readV_d, spent_t, opC_ok, put_d, evalK_lenS, lenS_s, okS_some, evalK_bin, isC_t, Bool.or_self, bin_lss, h1, decide_false, runOps_nil, thenC_nrm, exL_cond, condC_b, Bool.false_eq_true, ↓reduceIte, exL_exit, thenC_exit, blockC_exit, restrict_nil, f_waferref11_has_R1, rd_c, spent_c, exL_ret]
    exact ⟨_, _, .inr rfl, by rw [List.drop_length]; simp [get], rfl⟩
  | succ k ih =>
    intro i hk hi
    have h1 : ((i : Int) < (s.length : Int)) = True := by rw [eq_iff_iff]; simp; omega
    have hlt : i < s.length := by omega
    have hdr := drop_cons hlt
    have hix : ixV (.d (.s s)) (.d (.i .i64 (i : Int))) = some (.d (.i .u8 ((s[i] : Nat) : Int))) := ixV_s (by omega) (by simp)
    have hw : wr .i64 ((i : Int) + 1) = ((i + 1 : Nat) : Int) := by rw [wr_i64 (by omega) (by omega)]; omega
    rw [f_waferref11_has_l0_eq]
    by_cases hc : s[i] = c
    · have h2 : (((s[i] : Nat) : Int) = (c : Int)) = True := by rw [eq_iff_iff]; constructor <;> intro h <;> first | trivial | exact absurd (by exact_mod_cast h) hc | exact_mod_cast hc
      simp only [f_waferref11_has_B0, keepV_d, exL_seq, exL_ops, runOps_n, evalK_mov, rd_t, reduceCtorEq, get_ne, Nat.reduceEqDiff, get_eq, readV_d, spent_t, opC_ok, put_d, evalK_lenS, lenS_s, okS_some, evalK_bin, isC_t, Bool.or_self, bin_lss, h1, decide_true, runOps_nil, thenC_nrm, exL_cond, condC_b, ↓reduceIte, exL_skip, exL_block, evalK_index, hix, bin_eql, h2, rd_c, spent_c, exL_ret, blockC_ret, thenC_ret, f_waferref11_has_R1]
      exact ⟨_, _, .inr rfl, by rw [hdr, hc]; simp [get], rfl⟩
    · have h2 : (((s[i] : Nat) : Int) = (c : Int)) = False := by rw [eq_iff_iff]; constructor <;> intro h <;> first | trivial | exact absurd (by exact_mod_cast h) hc | exact_mod_cast hc
      obtain ⟨x, e, q1, q2, q3⟩ := ih (i + 1) (by omega) (by omega)
      simp only [f_waferref11_has_B0, keepV_d, exL_seq, exL_ops, runOps_n, evalK_mov, rd_t, reduceCtorEq, get_ne, Nat.reduceEqDiff, get_eq, readV_d, spent_t, opC_ok, put_d, evalK_lenS, lenS_s, okS_some, evalK_bin, isC_t, Bool.or_self, bin_lss, h1, decide_true, runOps_nil, thenC_nrm, exL_cond, condC_b, ↓reduceIte, exL_skip, exL_block, evalK_index, hix, bin_eql, h2, decide_false, Bool.false_eq_true, blockC_nrm, restrict_cons, restrict_nil, isC_c, Bool.or_true, rd_c, bin_add, hw, f_waferref11_has_l0_in]
      refine ⟨x, e, q1, ?_, q3⟩
      rw [q2, hdr]
      have : (c = s[i]) = False := eq_false (fun h => hc h.symm)
      simp only [List.mem_cons, this, false_or]
theorem rhas_call {s : List Nat} {c : Nat} (hz : s.length ≤ 1000000) {H : List Obj} : callL pg 39 [.d (.s s), .d (.i .u8 (c : Nat))] H = some ⟨false, true, .d (.b (decide (c ∈ s))), H, H.length⟩ := by
  obtain ⟨x, e, q1, q2, q3⟩ := rhas_loop (c := c) hz (H := H) s.length 0 rfl (by omega)
  have hz0 : ((0 : Nat) : Int) = 0 := rfl
  rw [hz0] at q3
  rw [List.drop_zero] at q2
  rw [callL_fn (fn := f_waferref11_has) rfl rfl]
  simp only [f_waferref11_has, argEnv_cons, Nat.zero_add, Nat.reduceAdd, argEnv_nil, exL_seq, exL_ops, runOps_n, evalK_mov, rd_c, spent_c, opC_ok, put_d, runOps_nil, thenC_nrm, exL_block, f_waferref11_has_l0_in, reduceCtorEq, get_ne, get_eq, keepV_d, Nat.reduceEqDiff]
  rw [q3]
  rcases q1 with rfl | rfl
  all_goals simp only [finC_nrm, resultVs_cons, resultV_t, q2, ownV_d, resultVs_nil, consO_some, leaveC_1, leaves_d, ref_d, settle_d, leave_pure, finC_ret]
  all_goals rfl
theorem ixN_mem {c : Nat} : ∀ l : List Nat, (ixN c l < 0) = (c ∉ l)
  | [] => by simp [ixN]
  | x :: l => by
    have ih := ixN_mem (c := c) l
    unfold ixN
    cases hb : Nat.beq x c with
    | true =>
      have := Nat.eq_of_beq_eq_true hb
      subst this
      simp
    | false =>
      have hne : x ≠ c := fun h => by subst h; simp at hb
      simp only [cond_false]
      have hm : (c ∉ x :: l) = (c ∉ l) := by
        rw [eq_iff_iff]
        simp only [List.mem_cons, not_or]
        exact ⟨fun h => h.2, fun h => ⟨fun h' => hne h'.symm, h⟩⟩
      rw [hm, ← ih]
      cases ixN c l with
      | ofNat n => rw [eq_iff_iff]; simp only [Int.ofNat_eq_natCast]; omega
      | negSucc n => rw [eq_iff_iff]; simp only [Int.negSucc_eq]; omega
theorem kwords_call {H : List Obj} : callL pg 18 [] H = some ⟨false, true, slV D.s KW, H, H.length⟩ := by
  rw [callL_fn (fn := f_waferref11_Keywords) rfl rfl]
  simp only [f_waferref11_Keywords, argEnv_nil, exL_seq, exL_ops, runOps_n, evalK_mov, rd_c, spent_c, opC_ok, put_d, runOps_nil, thenC_nrm, evalK_buildSlice, dcells_s, List.length_cons, List.length_nil, Nat.zero_add, List.reduceReplicate, List.map_cons, List.map_nil, Nat.reduceAdd, Nat.reduceLT, fillD_cons, List.set_cons_zero, List.set_cons_succ, fillD_nil, wfs_cons, one_s, wf_one, wfs_nil, Bool.and_self, slO_some, okS_some, put_osl, rd_mv, get_eq, takeV_osl, spent_mv, exL_ret, finC_ret, resultVs_cons, resultV_t, ownV_oslT, resultVs_nil, consO_some, leaveC_1, leaves_osl, ref_osl, settle_osl, leave_pure]
  all_goals rfl
theorem keyw_loop {L : List (List Nat)} {t : List Nat} (hz : L.length ≤ 1000000) {H : List Obj} :
    ∀ (k i : Nat), L.length - i = k → i ≤ L.length → ∃ x e, (x = .nrm ∨ x = .ret) ∧ get 2 e = .d (.b (decide (t ∈ L.drop i))) ∧
      thenC pg (blockC 0 [] (f_waferref11_Keyword_l0 pg (.d (.s t)) (slV D.s L) (.d (.i .i64 (i : Nat))) H H.length)) f_waferref11_Keyword_R1 = some (x, ⟨e, H, H.length⟩) := by
  intro k
  induction k with
  | zero =>
    intro i hk hi
    obtain rfl : i = L.length := by omega
    have h1 : ((L.length : Int) < (L.length : Int)) = False := by simp
    rw [f_waferref11_Keyword_l0_eq]
    simp only [f_waferref11_Keyword_B0, keepV_d, keepV_slV, exL_seq, exL_ops, runOps_n, evalK_mov, rd_t, reduceCtorEq, get_ne, Nat.reduceEqDiff, get_eq, readV_d, spent_t, opC_ok, put_d, readV_slV, evalK_lenL, lenL_slD, okS_some, evalK_bin, isC_t, Bool.or_self, bin_lss, h1, decide_false, runOps_nil, thenC_nrm, exL_cond, condC_b, Bool.false_eq_true, ↓reduceIte, exL_exit, thenC_exit, blockC_exit, restrict_nil, f_waferref11_Keyword_R1, rd_c, spent_c, exL_ret]
    exact ⟨_, _, .inr rfl, by rw [List.drop_length]; simp [get], rfl⟩
  | succ k ih =>
    intro i hk hi
    have h1 : ((i : Int) < (L.length : Int)) = True := by rw [eq_iff_iff]; simp; omega
    have hlt : i < L.length := by omega
    have hdr : L.drop i = L[i] :: L.drop (i + 1) := by simp
    have hia : iaV (.d (slD D.s L)) (.d (.i .i64 (i : Int))) 1 none = some (.cp (.s L[i])) := iaV_slD (fun _ => rfl) (by omega) (by simp)
    have hw : wr .i64 ((i : Int) + 1) = ((i + 1 : Nat) : Int) := by rw [wr_i64 (by omega) (by omega)]; omega
    rw [f_waferref11_Keyword_l0_eq]
    by_cases hc : L[i] = t
    · have h2 : (L[i] = t) = True := eq_true hc
      simp only [f_waferref11_Keyword_B0, keepV_d, keepV_slV, exL_seq, exL_ops, runOps_n, evalK_mov, rd_t, reduceCtorEq, get_ne, Nat.reduceEqDiff, get_eq, readV_d, spent_t, opC_ok, put_d, readV_slV, evalK_lenL, lenL_slD, okS_some, evalK_bin, isC_t, Bool.or_self, bin_lss, h1, decide_true, runOps_nil, thenC_nrm, exL_cond, condC_b, ↓reduceIte, exL_skip, exL_block, evalK_indexAddr, hia, put_cp, evalK_load, readV_cp, loadV_cp_s, bin_seql, h2, rd_c, spent_c, exL_ret, blockC_ret, thenC_ret, f_waferref11_Keyword_R1]
      exact ⟨_, _, .inr rfl, by rw [hdr, hc]; simp [get], rfl⟩
    · have h2 : (L[i] = t) = False := eq_false hc
      obtain ⟨x, e, q1, q2, q3⟩ := ih (i + 1) (by omega) (by omega)
      simp only [f_waferref11_Keyword_B0, keepV_d, keepV_slV, exL_seq, exL_ops, runOps_n, evalK_mov, rd_t, reduceCtorEq, get_ne, Nat.reduceEqDiff, get_eq, readV_d, spent_t, opC_ok, put_d, readV_slV, evalK_lenL, lenL_slD, okS_some, evalK_bin, isC_t, Bool.or_self, bin_lss, h1, decide_true, runOps_nil, thenC_nrm, exL_cond, condC_b, ↓reduceIte, exL_skip, exL_block, evalK_indexAddr, hia, put_cp, evalK_load, readV_cp, loadV_cp_s, bin_seql, h2, decide_false, Bool.false_eq_true, blockC_nrm, restrict_cons, restrict_nil, isC_c, Bool.or_true, rd_c, bin_add, hw, f_waferref11_Keyword_l0_in]
      refine ⟨x, e, q1, ?_, q3⟩
      rw [q2, hdr]
      have : (t = L[i]) = False := eq_false (fun h => hc h.symm)
      simp only [List.mem_cons, this, false_or]
theorem keyword_call {t : List Nat} {H : List Obj} : callL pg 19 [.d (.s t)] H = some ⟨false, true, .d (.b (decide (t ∈ KW))), H, H.length⟩ := by
  obtain ⟨x, e, q1, q2, q3⟩ := keyw_loop (L := KW) (t := t) (by decide) (H := H) KW.length 0 rfl (by omega)
  have hz0 : ((0 : Nat) : Int) = 0 := rfl
  rw [hz0] at q3
  rw [List.drop_zero] at q2
  rw [callL_fn (fn := f_waferref11_Keyword) rfl rfl]
  simp only [f_waferref11_Keyword, argEnv_cons, Nat.zero_add, argEnv_nil, exL_seq, exL_ops, runOps_n, evalK_mov, rd_c, spent_c, opC_ok, put_d, runOps_nil, thenC_nrm, evalK_call, List.map_nil, allLeave_nil, eCall_f, kwords_call, callC_some, spentAll_nil, Nat.min_self, put_slV, rd_mv, get_eq, takeV_slV, spent_mv, exL_block, f_waferref11_Keyword_l0_in, reduceCtorEq, get_ne, keepV_d, Nat.reduceEqDiff, keepV_slV]
  rw [q3]
  rcases q1 with rfl | rfl
  all_goals simp only [finC_nrm, resultVs_cons, resultV_t, q2, ownV_d, resultVs_nil, consO_some, leaveC_1, leaves_d, ref_d, settle_d, leave_pure, finC_ret]
  all_goals rfl
end W

set_option linter.unusedSimpArgs false
set_option linter.unusedVariables false
namespace W
open Go (IntKind BinOp UnOp)
set_option maxRecDepth 20000
def SyR (H : List Obj) (a : Nat) (r : Sy) (X : Option Cr) : Prop :=
  match r with
  | .ok k t n a' => X = some ⟨false, true, .tup [.d (tok k a a' t n), .d (.i .i64 0)], H, H.length⟩
  | .bad e => X = some ⟨false, true, .tup [.d (tok 0 0 0 [] 0), .d (.i .i64 e)], H, H.length⟩
theorem ixA {s : List Nat} {j c : Nat} (h : s[j]? = some c) : ixV (.d (.s s)) (.d (.i .i64 (j : Int))) = some (.d (.i .u8 ((c : Nat) : Int))) := ixV_s (by omega) (by rw [Int.toNat_natCast]; exact h)
theorem quoted_loop {s : List Nat} (hz : s.length ≤ 1000000) {v1 : Int} {v4 : List V} {H : List Obj} :
    ∀ (k j : Nat), s.length - j = k → j ≤ s.length → blockC 0 [0, 1, 4, 6] (f_waferref11_quoted_l0 pg (.d (.s s)) (.d (.i .i64 v1)) (.box v4) (.d (.i .i64 (j : Nat))) H H.length) = some (.nrm, ⟨[(0, .d (.s s)), (1, .d (.i .i64 v1)), (4, .box v4), (6, .d (.i .i64 ((j + run cTx (s.drop j) : Nat) : Int)))], H, H.length⟩) := by
  intro k
  induction k with
  | zero =>
    intro j hk hj
    obtain rfl : j = s.length := by omega
    have h1 : ((s.length : Int) < (s.length : Int)) = False := by simp
    rw [f_waferref11_quoted_l0_eq]
    have hr : run cTx (s.drop s.length) = 0 := by simp [run]
    rw [hr]
    simp only [f_waferref11_quoted_B0, keepV_d, keepV_box, exL_seq, exL_ops, runOps_n, evalK_mov, rd_t, reduceCtorEq, get_ne, Nat.reduceEqDiff, get_eq, readV_d, spent_t, opC_ok, put_d, evalK_lenS, lenS_s, okS_some, evalK_bin, isC_t, Bool.or_self, bin_lss, h1, decide_false, runOps_g, wantG_bt, wantC_b, Bool.false_eq_true, ↓reduceIte, put_tup, evalK_pick, readV_tup, rd_c, pickV_f, runOps_nil, thenC_nrm, exL_cond, condC_b, exL_exit, thenC_exit, blockC_exit, restrict_cons, restrict_nil, Nat.add_zero]
    all_goals rfl
  | succ k ih =>
    intro j hk hj
    have h1 : ((j : Int) < (s.length : Int)) = True := by rw [eq_iff_iff]; simp; omega
    have hlt : j < s.length := by omega
    have hdr := drop_cons hlt
    have hix : ixV (.d (.s s)) (.d (.i .i64 (j : Int))) = some (.d (.i .u8 ((s[j] : Nat) : Int))) := ixV_s (by omega) (by simp)
    have hw : wr .i64 ((j : Int) + 1) = ((j + 1 : Nat) : Int) := by rw [wr_i64 (by omega) (by omega)]; omega
    rw [f_waferref11_quoted_l0_eq, hdr]
    generalize s[j] = c at hix
    have e1 : ((c : Int) = 34) = (c = 34) := by rw [eq_iff_iff]; omega
    have e2 : ((32 : Int) ≤ (c : Int)) = (32 ≤ c) := by rw [eq_iff_iff]; omega
    have ih' := ih (j + 1) (by omega) (by omega)
    by_cases q1 : c = 34
    · have hr : run cTx (c :: s.drop (j + 1)) = 0 := by simp [run, cTx, q1]
      rw [hr]
      simp only [f_waferref11_quoted_B0, keepV_d, keepV_box, exL_seq, exL_ops, runOps_n, evalK_mov, rd_t, reduceCtorEq, get_ne, Nat.reduceEqDiff, get_eq, readV_d, spent_t, opC_ok, put_d, evalK_lenS, lenS_s, okS_some, evalK_bin, isC_t, Bool.or_self, bin_lss, h1, decide_true, runOps_g, wantG_bt, wantC_b, ↓reduceIte, evalK_index, hix, q1, Int.cast_ofNat_Int, isC_c, Bool.or_true, rd_c, bin_neq, Bool.not_true, evalK_pick, pickV_b, Bool.false_eq_true, put_tup, readV_tup, pickV_f, runOps_nil, thenC_nrm, exL_cond, condC_b, exL_exit, thenC_exit, blockC_exit, restrict_cons, restrict_nil, Nat.add_zero]
      all_goals rfl
    · by_cases q2 : 32 ≤ c
      · have hr : j + run cTx (c :: s.drop (j + 1)) = j + 1 + run cTx (s.drop (j + 1)) := by simp [run, cTx, q1, q2]; omega
        rw [hr]
        simp only [f_waferref11_quoted_B0, keepV_d, keepV_box, exL_seq, exL_ops, runOps_n, evalK_mov, rd_t, reduceCtorEq, get_ne, Nat.reduceEqDiff, get_eq, readV_d, spent_t, opC_ok, put_d, evalK_lenS, lenS_s, okS_some, evalK_bin, isC_t, Bool.or_self, bin_lss, h1, decide_true, runOps_g, wantG_bt, wantC_b, ↓reduceIte, evalK_index, hix, isC_c, Bool.or_true, rd_c, bin_neq, e1, q1, decide_false, Bool.not_false, evalK_pick, pickV_b, bin_geq, e2, q2, runOps_nil, thenC_nrm, exL_cond, condC_b, exL_skip, exL_block, bin_add, hw, blockC_nrm, restrict_cons, restrict_nil, f_waferref11_quoted_l0_in]
        exact ih'
      · have hr : run cTx (c :: s.drop (j + 1)) = 0 := by simp [run, cTx, q1, q2]
        rw [hr]
        simp only [f_waferref11_quoted_B0, keepV_d, keepV_box, exL_seq, exL_ops, runOps_n, evalK_mov, rd_t, reduceCtorEq, get_ne, Nat.reduceEqDiff, get_eq, readV_d, spent_t, opC_ok, put_d, evalK_lenS, lenS_s, okS_some, evalK_bin, isC_t, Bool.or_self, bin_lss, h1, decide_true, runOps_g, wantG_bt, wantC_b, ↓reduceIte, evalK_index, hix, isC_c, Bool.or_true, rd_c, bin_neq, e1, q1, decide_false, Bool.not_false, evalK_pick, pickV_b, bin_geq, e2, q2, runOps_nil, thenC_nrm, exL_cond, condC_b, Bool.false_eq_true, exL_exit, thenC_exit, blockC_exit, restrict_cons, restrict_nil, Nat.add_zero]
        all_goals rfl
theorem pre1_at {x j : Nat} {s : List Nat} : pre [x] (s.drop j) = true ↔ s[j]? = some x := by
  constructor
  · intro h
    have hlt := pre1_lt h
    rw [drop_cons hlt, pre1] at h
    rw [List.getElem?_eq_getElem hlt]
    rw [of_decide_eq_true h]
  · intro h
    have hlt := (List.getElem?_eq_some_iff.1 h).1
    rw [drop_cons hlt, pre1]
    rw [List.getElem?_eq_getElem hlt] at h
    exact decide_eq_true (Option.some.inj h)
theorem quoted_call {s : List Nat} (hz : s.length ≤ 1000000) {a : Nat} {H : List Obj} (ha : a < s.length) : SyR H a (textS s a) (callL pg 38 [.d (.s s), .d (.i .i64 (a : Nat))] H) := by
  have hl := fun v4 => quoted_loop hz (v1 := (a : Int)) (v4 := v4) (H := H) (s.length - (a + 1)) (a + 1) rfl (by omega)
  have hle := run_le cTx (s.drop (a + 1))
  simp only [List.length_drop] at hle
  have hmm : (s.take (a + 1 + run cTx (s.drop (a + 1)))).drop (a + 1) = (s.drop (a + 1)).take (run cTx (s.drop (a + 1))) := by
    rw [List.drop_take]; congr 1; omega
  have hw0 : wr .i64 ((a : Int) + 1) = ((a + 1 : Nat) : Int) := by rw [wr_i64 (by omega) (by omega)]; omega
  rw [callL_fn (fn := f_waferref11_quoted) rfl rfl]
  unfold textS
  have hmid := sl_mid (l := s) (a := a + 1) (b := a + 1 + run cTx (s.drop (a + 1))) (by omega) (by omega)
  rw [hmm] at hmid
  generalize run cTx (s.drop (a + 1)) = k at *
  generalize (s.drop (a + 1)).take k = t at *
  by_cases hp : pre [34] (s.drop (a + 1 + k)) = true
  · have hlt := pre1_lt hp
    have h1 : ((s.length : Int) ≤ ((a + 1 + k : Nat) : Int)) = False := by rw [eq_iff_iff]; simp; omega
    have hix : ixV (.d (.s s)) (.d (.i .i64 ((a + 1 + k : Nat) : Int))) = some (.d (.i .u8 ((34 : Nat) : Int))) := ixA (pre1_at.1 hp)
    have e34 : (((34 : Nat) : Int) = 34) = True := by simp
    have hw1 : wr .i64 (((a + 1 + k : Nat) : Int) - (a : Int)) = ((k + 1 : Nat) : Int) := by rw [wr_i64 (by omega) (by omega)]; omega
    have hw2 : wr .i64 (((k + 1 : Nat) : Int) - 1) = (k : Int) := by rw [wr_i64 (by omega) (by omega)]; omega
    have hw3 : wr .i64 (((a + 1 + k : Nat) : Int) + 1) = ((a + 1 + k + 1 : Nat) : Int) := by rw [wr_i64 (by omega) (by omega)]; omega
    rw [if_pos hp]
    by_cases q : 120 < k
    · have e1 : ((120 : Int) < ((k : Nat) : Int)) = True := by rw [eq_iff_iff]; simp; omega
      rw [if_pos q]
      simp only [SyR, f_waferref11_quoted, f_waferref11_quoted_R1, argEnv_cons, Nat.zero_add, Nat.reduceAdd, argEnv_nil, exL_seq, exL_ops, runOps_n, evalK_allocL, List.map_cons, List.map_nil, opC_ok, put_box, killLp_cons, killV_d, killLp_nil, evalK_mov, rd_c, spent_c, put_d, runOps_nil, thenC_nrm, rd_t, Nat.reduceEqDiff, get_ne, reduceCtorEq, get_eq, readV_d, spent_t, evalK_bin, isC_t, isC_c, Bool.or_true, bin_add, hw0, okS_some, exL_block, f_waferref11_quoted_l0_in, keepV_d, keepV_box, hl, evalK_lenS, lenS_s, Bool.or_self, bin_geq, h1, decide_false, runOps_g, wantG_bf, Bool.not_false, wantC_b, ↓reduceIte, evalK_index, hix, Int.cast_ofNat_Int, bin_neq, decide_true, Bool.not_true, evalK_pick, pickV_b, Bool.false_eq_true, exL_cond, condC_b, exL_skip, bin_sub, hw1, hw2, bin_gtr, e1, evalK_build, fillC_nil, aggO_some, mkAgg_eq, allD_d, allD_nil, consD_some, aggV_some, evalK_store, readV_box, storeV_lp, cells_agg, List.length_cons, List.length_nil, ones_cons, vone_d, one_i, one_s, ones_nil, Bool.and_self, storeB_box, setCells_all, storeR_some, put_none, exL_ret, thenC_ret, finC_ret, resultVs_cons, resultV_cell, resC_box, Nat.reduceLeDiff, boxV_A, List.drop_zero, List.take_succ_cons, List.take_zero, copy1_d, resultV_t, ownV_d, resultVs_nil, consO_some, leaveC_2, leaves_tup, oks_cons, ok_d, oks_nil, ref_tup, refs_cons, ref_d, refs_nil, Nat.max_self, settle_tup, leave_pure, tok]
      all_goals rfl
    · have e1 : ((120 : Int) < ((k : Nat) : Int)) = False := by rw [eq_iff_iff]; simp; omega
      rw [if_neg q]
      simp only [SyR, f_waferref11_quoted, f_waferref11_quoted_R1, argEnv_cons, Nat.zero_add, Nat.reduceAdd, argEnv_nil, exL_seq, exL_ops, runOps_n, evalK_allocL, List.map_cons, List.map_nil, opC_ok, put_box, killLp_cons, killV_d, killLp_nil, evalK_mov, rd_c, spent_c, put_d, runOps_nil, thenC_nrm, rd_t, Nat.reduceEqDiff, get_ne, reduceCtorEq, get_eq, readV_d, spent_t, evalK_bin, isC_t, isC_c, Bool.or_true, bin_add, hw0, okS_some, exL_block, f_waferref11_quoted_l0_in, keepV_d, keepV_box, hl, evalK_lenS, lenS_s, Bool.or_self, bin_geq, h1, decide_false, runOps_g, wantG_bf, Bool.not_false, wantC_b, ↓reduceIte, evalK_index, hix, Int.cast_ofNat_Int, bin_neq, decide_true, Bool.not_true, evalK_pick, pickV_b, Bool.false_eq_true, exL_cond, condC_b, exL_skip, bin_sub, hw1, hw2, bin_gtr, e1, hw3, evalK_sliceS, optInt_some, oInt_i, cut2_some, hmid, evalK_build, one_i, cells_d1, vone_d, List.length_cons, List.length_nil, Nat.reduceLT, fillC_1, List.set_cons_zero, List.set_cons_succ, one_s, fillC_nil, aggO_some, mkAgg_eq, allD_d, allD_nil, consD_some, aggV_some, evalK_store, readV_box, storeV_lp, cells_agg, ones_cons, ones_nil, Bool.and_self, storeB_box, setCells_all, storeR_some, put_none, exL_ret, finC_ret, resultVs_cons, resultV_cell, resC_box, Nat.reduceLeDiff, boxV_A, List.drop_zero, List.take_succ_cons, List.take_zero, copy1_d, resultV_t, ownV_d, resultVs_nil, consO_some, leaveC_2, leaves_tup, oks_cons, ok_d, oks_nil, ref_tup, refs_cons, ref_d, refs_nil, Nat.max_self, settle_tup, leave_pure, tok]
      all_goals rfl
  · rw [if_neg hp]
    by_cases hlt : a + 1 + k < s.length
    · have h1 : ((s.length : Int) ≤ ((a + 1 + k : Nat) : Int)) = False := by rw [eq_iff_iff]; simp; omega
      have hix : ixV (.d (.s s)) (.d (.i .i64 ((a + 1 + k : Nat) : Int))) = some (.d (.i .u8 ((s[a + 1 + k] : Nat) : Int))) := ixA (List.getElem?_eq_getElem hlt)
      have hne : s[a + 1 + k] ≠ 34 := fun h => hp (pre1_at.2 (by rw [List.getElem?_eq_getElem hlt, h]))
      have e34 : (((s[a + 1 + k] : Nat) : Int) = 34) = False := eq_false (fun h => hne (by exact_mod_cast h))
      simp only [SyR, f_waferref11_quoted, f_waferref11_quoted_R1, argEnv_cons, Nat.zero_add, Nat.reduceAdd, argEnv_nil, exL_seq, exL_ops, runOps_n, evalK_allocL, List.map_cons, List.map_nil, opC_ok, put_box, killLp_cons, killV_d, killLp_nil, evalK_mov, rd_c, spent_c, put_d, runOps_nil, thenC_nrm, rd_t, Nat.reduceEqDiff, get_ne, reduceCtorEq, get_eq, readV_d, spent_t, evalK_bin, isC_t, isC_c, Bool.or_true, bin_add, hw0, okS_some, exL_block, f_waferref11_quoted_l0_in, keepV_d, keepV_box, hl, evalK_lenS, lenS_s, Bool.or_self, bin_geq, h1, decide_false, runOps_g, wantG_bf, Bool.not_false, wantC_b, ↓reduceIte, evalK_index, hix, bin_neq, e34, evalK_pick, pickV_b, Bool.false_eq_true, exL_cond, condC_b, evalK_build, fillC_nil, aggO_some, mkAgg_eq, allD_d, allD_nil, consD_some, aggV_some, evalK_store, readV_box, storeV_lp, cells_agg, List.length_cons, List.length_nil, ones_cons, vone_d, one_i, one_s, ones_nil, Bool.and_self, storeB_box, setCells_all, storeR_some, put_none, exL_ret, thenC_ret, finC_ret, resultVs_cons, resultV_cell, resC_box, Nat.reduceLeDiff, boxV_A, List.drop_zero, List.take_succ_cons, List.take_zero, copy1_d, resultV_t, ownV_d, resultVs_nil, consO_some, leaveC_2, leaves_tup, oks_cons, ok_d, oks_nil, ref_tup, refs_cons, ref_d, refs_nil, Nat.max_self, settle_tup, leave_pure, tok]
      all_goals rfl
    · have h1 : ((s.length : Int) ≤ ((a + 1 + k : Nat) : Int)) = True := by rw [eq_iff_iff]; simp; omega
      simp only [SyR, f_waferref11_quoted, f_waferref11_quoted_R1, argEnv_cons, Nat.zero_add, Nat.reduceAdd, argEnv_nil, exL_seq, exL_ops, runOps_n, evalK_allocL, List.map_cons, List.map_nil, opC_ok, put_box, killLp_cons, killV_d, killLp_nil, evalK_mov, rd_c, spent_c, put_d, runOps_nil, thenC_nrm, rd_t, Nat.reduceEqDiff, get_ne, reduceCtorEq, get_eq, readV_d, spent_t, evalK_bin, isC_t, isC_c, Bool.or_true, bin_add, hw0, okS_some, exL_block, f_waferref11_quoted_l0_in, keepV_d, keepV_box, hl, evalK_lenS, lenS_s, Bool.or_self, bin_geq, h1, decide_true, runOps_g, wantG_bf, Bool.not_true, wantC_b, Bool.false_eq_true, ↓reduceIte, put_tup, evalK_pick, readV_tup, pickV_t, exL_cond, condC_b, evalK_build, fillC_nil, aggO_some, mkAgg_eq, allD_d, allD_nil, consD_some, aggV_some, evalK_store, readV_box, storeV_lp, cells_agg, List.length_cons, List.length_nil, ones_cons, vone_d, one_i, one_s, ones_nil, Bool.and_self, storeB_box, setCells_all, storeR_some, put_none, exL_ret, thenC_ret, finC_ret, resultVs_cons, resultV_cell, resC_box, Nat.reduceLeDiff, boxV_A, List.drop_zero, List.take_succ_cons, List.take_zero, copy1_d, resultV_t, ownV_d, resultVs_nil, consO_some, leaveC_2, leaves_tup, oks_cons, ok_d, oks_nil, ref_tup, refs_cons, ref_d, refs_nil, Nat.max_self, settle_tup, leave_pure, tok]
      all_goals rfl
def KK : Nat := 1099511627776
def accH (h : Nat) : List Nat → Nat
  | [] => h
  | c :: l => accH (min (16 * h + dg c) KK) l
def accD (h : Nat) : List Nat → Nat
  | [] => h
  | c :: l => accD (min (10 * h + dg c) KK) l
def accP (p : Bool) : List Nat → Bool
  | [] => p
  | c :: l => accP (p && decide (dg c < 10)) l
theorem accH_ge : ∀ (l : List Nat) (h m : Nat), m < h → m < KK → m < accH h l
  | [], h, m, h1, _ => h1
  | c :: l, h, m, h1, h2 => accH_ge l _ m (by omega) h2
theorem accD_ge : ∀ (l : List Nat) (h m : Nat), m < h → m < KK → m < accD h l
  | [], h, m, h1, _ => h1
  | c :: l, h, m, h1, h2 => accD_ge l _ m (by omega) h2
theorem accP_f : ∀ l, accP false l = false
  | [] => rfl
  | c :: l => by rw [accP, Bool.false_and]; exact accP_f l
theorem accH_le : ∀ (l : List Nat) (h : Nat), h ≤ KK → accH h l ≤ KK
  | [], h, h1 => h1
  | c :: l, h, h1 => accH_le l _ (Nat.min_le_right _ _)
theorem pu16 {mx : Nat} (hmx : mx < KK) : ∀ (l : List Nat) (n : Nat), (∀ c ∈ l, dg c < 16) → n ≤ mx → pu 16 mx n l = if accH n l ≤ mx then some (accH n l) else none
  | [], n, _, hn => by rw [pu, accH, if_pos hn]
  | c :: l, n, hl, hn => by
    have hc := hl c (by simp)
    rw [pu, accH, if_neg (by omega)]
    have e : n * 16 + dg c = 16 * n + dg c := by omega
    rw [e]
    by_cases h : mx < 16 * n + dg c
    · rw [if_pos h, if_neg]
      have := accH_ge l (min (16 * n + dg c) KK) mx (by omega) hmx
      omega
    · rw [if_neg h, pu16 hmx l _ (fun c h => hl c (by simp [h])) (by omega)]
      have : min (16 * n + dg c) KK = 16 * n + dg c := by omega
      rw [this]
theorem pu10 {mx : Nat} (hmx : mx < KK) : ∀ (l : List Nat) (n : Nat), n ≤ mx → pu 10 mx n l = if accP true l = true ∧ accD n l ≤ mx then some (accD n l) else none
  | [], n, hn => by rw [pu, accD, accP, if_pos ⟨rfl, hn⟩]
  | c :: l, n, hn => by
    rw [pu, accD, accP, Bool.true_and]
    by_cases hc : 10 ≤ dg c
    · rw [if_pos hc, if_neg]
      have : decide (dg c < 10) = false := by simp; omega
      rw [this, accP_f]; simp
    · rw [if_neg hc]
      have : decide (dg c < 10) = true := by simp; omega
      rw [this]
      have e : n * 10 + dg c = 10 * n + dg c := by omega
      rw [e]
      by_cases h : mx < 10 * n + dg c
      · rw [if_pos h, if_neg]
        have := accD_ge l (min (10 * n + dg c) KK) mx (by omega) hmx
        omega
      · rw [if_neg h, pu10 hmx l _ (by omega)]
        have : min (10 * n + dg c) KK = 10 * n + dg c := by omega
        rw [this]
theorem wr_min {h x m : Nat} : (if (1099511627776 : Int) < ((m * h + x : Nat) : Int) then (1099511627776 : Int) else ((m * h + x : Nat) : Int)) = ((min (m * h + x) KK : Nat) : Int) := by
  unfold KK
  split <;> omega
theorem dg_lt {c : Nat} (h : cHx c = true) : dg c < 16 := by
  simp only [cHx, cDg, Bool.or_eq_true, Bool.and_eq_true, decide_eq_true_eq] at h
  unfold dg; split <;> omega
theorem num_loop {s : List Nat} (hz : s.length ≤ 1000000) {v1 : Int} {v4 : List V} {H : List Obj} :
    ∀ (k j : Nat) (p : Bool) (h d : Nat), s.length - j = k → j ≤ s.length → h ≤ KK → d ≤ KK →
      blockC 0 [0, 1, 4, 6, 7, 8, 9] (f_waferref11_number_l0 pg (.d (.s s)) (.d (.i .i64 v1)) (.box v4) (.d (.i .i64 (j : Nat))) (.d (.b p)) (.d (.i .u64 (h : Nat))) (.d (.i .u64 (d : Nat))) H H.length) =
        some (.nrm, ⟨[(0, .d (.s s)), (1, .d (.i .i64 v1)), (4, .box v4), (6, .d (.i .i64 ((j + run cHx (s.drop j) : Nat) : Int))), (7, .d (.b (accP p ((s.drop j).take (run cHx (s.drop j)))))), (8, .d (.i .u64 ((accH h ((s.drop j).take (run cHx (s.drop j))) : Nat) : Int))), (9, .d (.i .u64 ((accD d ((s.drop j).take (run cHx (s.drop j))) : Nat) : Int)))], H, H.length⟩) := by
  intro k
  induction k with
  | zero =>
    intro j p h d hk hj hh hd
    obtain rfl : j = s.length := by omega
    have h1 : ((s.length : Int) < (s.length : Int)) = False := by simp
    rw [f_waferref11_number_l0_eq]
    have hr : run cHx (s.drop s.length) = 0 := by simp [run]
    rw [hr]
    simp only [f_waferref11_number_B0, keepV_d, keepV_box, exL_seq, exL_ops, runOps_n, evalK_mov, rd_t, reduceCtorEq, get_ne, Nat.reduceEqDiff, get_eq, readV_d, spent_t, opC_ok, put_d, evalK_lenS, lenS_s, okS_some, evalK_bin, isC_t, Bool.or_self, bin_lss, h1, decide_false, runOps_g, wantG_bt, wantC_b, Bool.false_eq_true, ↓reduceIte, put_tup, evalK_pick, readV_tup, rd_c, pickV_f, runOps_nil, thenC_nrm, exL_cond, condC_b, exL_exit, thenC_exit, blockC_exit, restrict_cons, restrict_nil, Nat.add_zero, List.take_zero, accP, accH, accD]
    all_goals rfl
  | succ k ih =>
    intro j p h d hk hj hh hd
    have h1 : ((j : Int) < (s.length : Int)) = True := by rw [eq_iff_iff]; simp; omega
    have hlt : j < s.length := by omega
    have hdr := drop_cons hlt
    have hix : ixV (.d (.s s)) (.d (.i .i64 (j : Int))) = some (.d (.i .u8 ((s[j] : Nat) : Int))) := ixA (List.getElem?_eq_getElem hlt)
    have hw : wr .i64 ((j : Int) + 1) = ((j + 1 : Nat) : Int) := by rw [wr_i64 (by omega) (by omega)]; omega
    rw [f_waferref11_number_l0_eq, hdr]
    generalize s[j] = c at hix
    have hc := rhex_call (c := c) (H := H)
    cases hq : cHx c with
    | false =>
      rw [hq] at hc
      have hr : run cHx (c :: s.drop (j + 1)) = 0 := by simp [run, hq]
      rw [hr]
      have e1 : ((0 : Int) ≤ -1) = False := by simp
      simp only [f_waferref11_number_B0, keepV_d, keepV_box, exL_seq, exL_ops, runOps_n, evalK_mov, rd_t, reduceCtorEq, get_ne, Nat.reduceEqDiff, get_eq, readV_d, spent_t, opC_ok, put_d, evalK_lenS, lenS_s, okS_some, evalK_bin, isC_t, Bool.or_self, bin_lss, h1, decide_true, runOps_g, wantG_bt, wantC_b, ↓reduceIte, evalK_index, hix, evalK_call, List.map_cons, List.map_nil, allLeave_cons, leaves_d, allLeave_nil, Bool.and_self, eCall_f, hc, Bool.false_eq_true, Int.reduceNeg, callC_some, spentAll_cons, spentAll_nil, Nat.min_self, isC_c, Bool.or_true, rd_c, bin_geq, e1, decide_false, evalK_pick, pickV_b, runOps_nil, thenC_nrm, exL_cond, condC_b, exL_exit, thenC_exit, blockC_exit, restrict_cons, restrict_nil, Nat.add_zero, List.take_zero, accP, accH, accD]
      all_goals rfl
    | true =>
      rw [hq, if_pos rfl] at hc
      have hdl := dg_lt hq
      have hr : run cHx (c :: s.drop (j + 1)) = run cHx (s.drop (j + 1)) + 1 := by simp [run, hq]
      have hj2 : j + (run cHx (s.drop (j + 1)) + 1) = j + 1 + run cHx (s.drop (j + 1)) := by omega
      rw [hr, List.take_succ_cons, accP, accH, accD, hj2]
      have e1 : ((0 : Int) ≤ (dg c : Int)) = True := by rw [eq_iff_iff]; simp
      have e2 : wr .u64 (dg c : Int) = (dg c : Int) := wr_u64 (by omega) (by omega)
      have hk16 : 16 * h ≤ 16 * KK := by omega
      have hk10 : 10 * d ≤ 10 * KK := by omega
      have hKK : KK = 1099511627776 := rfl
      have e3 : wr .u64 (16 * (h : Int)) = ((16 * h : Nat) : Int) := by rw [wr_u64 (by omega) (by omega)]; omega
      have e4 : wr .u64 (((16 * h : Nat) : Int) + (dg c : Int)) = ((16 * h + dg c : Nat) : Int) := by rw [wr_u64 (by omega) (by omega)]; omega
      have e5 : wr .u64 (10 * (d : Int)) = ((10 * d : Nat) : Int) := by rw [wr_u64 (by omega) (by omega)]; omega
      have e6 : wr .u64 (((10 * d : Nat) : Int) + (dg c : Int)) = ((10 * d + dg c : Nat) : Int) := by rw [wr_u64 (by omega) (by omega)]; omega
      have e7 := wr_min (h := h) (x := dg c) (m := 16)
      have e8 := wr_min (h := d) (x := dg c) (m := 10)
      have e9 : ((dg c : Int) < 10) = (dg c < 10) := by rw [eq_iff_iff]; omega
      cases p with
      | false =>
        have ih' := ih (j + 1) false (min (16 * h + dg c) KK) (min (10 * d + dg c) KK) (by omega) (by omega) (Nat.min_le_right _ _) (Nat.min_le_right _ _)
        rw [Bool.false_and]
        simp only [f_waferref11_number_B0, keepV_d, keepV_box, exL_seq, exL_ops, runOps_n, evalK_mov, rd_t, reduceCtorEq, get_ne, Nat.reduceEqDiff, get_eq, readV_d, spent_t, opC_ok, put_d, evalK_lenS, lenS_s, okS_some, evalK_bin, isC_t, Bool.or_self, bin_lss, h1, decide_true, runOps_g, wantG_bt, wantC_b, ↓reduceIte, evalK_index, hix, evalK_call, List.map_cons, List.map_nil, allLeave_cons, leaves_d, allLeave_nil, Bool.and_self, eCall_f, hc, callC_some, spentAll_cons, spentAll_nil, Nat.min_self, isC_c, Bool.or_true, rd_c, bin_geq, e1, evalK_pick, pickV_b, runOps_nil, thenC_nrm, exL_cond, condC_b, exL_skip, exL_block, evalK_conv, e2, rd_mv, takeV_d, spent_mv, Bool.false_eq_true, put_tup, readV_tup, pickV_f, Bool.or_false, bin_mul, e3, bin_add, e4, evalK_min, minD_2, e7, e5, e6, e8, hw, blockC_nrm, restrict_cons, restrict_nil, f_waferref11_number_l0_in]
        exact ih'
      | true =>
        have ih' := ih (j + 1) (decide (dg c < 10)) (min (16 * h + dg c) KK) (min (10 * d + dg c) KK) (by omega) (by omega) (Nat.min_le_right _ _) (Nat.min_le_right _ _)
        rw [Bool.true_and]
        simp only [f_waferref11_number_B0, keepV_d, keepV_box, exL_seq, exL_ops, runOps_n, evalK_mov, rd_t, reduceCtorEq, get_ne, Nat.reduceEqDiff, get_eq, readV_d, spent_t, opC_ok, put_d, evalK_lenS, lenS_s, okS_some, evalK_bin, isC_t, Bool.or_self, bin_lss, h1, decide_true, runOps_g, wantG_bt, wantC_b, ↓reduceIte, evalK_index, hix, evalK_call, List.map_cons, List.map_nil, allLeave_cons, leaves_d, allLeave_nil, Bool.and_self, eCall_f, hc, callC_some, spentAll_cons, spentAll_nil, Nat.min_self, isC_c, Bool.or_true, rd_c, bin_geq, e1, evalK_pick, pickV_b, runOps_nil, thenC_nrm, exL_cond, condC_b, exL_skip, exL_block, evalK_conv, e2, rd_mv, takeV_d, spent_mv, e9, Bool.or_false, bin_mul, e3, bin_add, e4, evalK_min, minD_2, e7, e5, e6, e8, hw, blockC_nrm, restrict_cons, restrict_nil, f_waferref11_number_l0_in]
        exact ih'
theorem rnumber_call {s : List Nat} (hz : s.length ≤ 1000000) {a : Nat} {H : List Obj} (ha : a ≤ s.length) : SyR H a (numS s a) (callL pg 37 [.d (.s s), .d (.i .i64 (a : Nat))] H) := by
  have hl := fun v4 => num_loop hz (v1 := (a : Int)) (v4 := v4) (H := H) (s.length - a) a true 0 0 rfl ha (by omega) (by omega)
  have hall := run_all cHx (s.drop a)
  have hle := run_le cHx (s.drop a)
  simp only [List.length_drop] at hle
  have hz0 : ((0 : Nat) : Int) = 0 := rfl
  rw [callL_fn (fn := f_waferref11_number) rfl rfl]
  unfold numS
  generalize run cHx (s.drop a) = k at *
  generalize (s.drop a).take k = t at *
  have hd16 : ∀ c ∈ t, dg c < 16 := fun c hc => dg_lt (hall c hc)
  have r16 := fun (mx : Nat) (h : mx < KK) => pu16 h t 0 hd16 (Nat.zero_le _)
  have r10 := fun (mx : Nat) (h : mx < KK) => pu10 h t 0 (Nat.zero_le _)
  have hHK := accH_le t 0 (by unfold KK; omega)
  have hw1 : wr .i64 (((a + k : Nat) : Int) + 1) = ((a + k + 1 : Nat) : Int) := by rw [wr_i64 (by omega) (by omega)]; omega
  rw [hz0] at hl
  unfold numR
  rw [r16 4294967295 (by decide), r16 255 (by decide), r10 2147483647 (by decide)]
  generalize accH 0 t = h at *
  generalize accD 0 t = d at *
  generalize accP true t = p at *
  by_cases hp : pre [72] (s.drop (a + k)) = true
  · have hlt := pre1_lt hp
    have h1 : (((a + k : Nat) : Int) < (s.length : Int)) = True := by rw [eq_iff_iff]; simp; omega
    have hix := ixA (pre1_at.1 hp)
    have e72 : (((72 : Nat) : Int) = 72) = True := by simp
    have e88 : (((72 : Nat) : Int) = 88) = False := by simp
    rw [if_pos hp]
    by_cases q : h ≤ 4294967295
    · have e1 : ((4294967295 : Int) < (h : Int)) = False := by rw [eq_iff_iff]; simp; omega
      rw [if_pos q]
      simp only [SyR, f_waferref11_number, f_waferref11_number_R1, argEnv_cons, Nat.zero_add, Nat.reduceAdd, argEnv_nil, exL_seq, exL_ops, runOps_n, evalK_allocL, List.map_cons, List.map_nil, opC_ok, put_box, killLp_cons, killV_d, killLp_nil, evalK_mov, rd_c, spent_c, put_d, runOps_nil, thenC_nrm, rd_t, Nat.reduceEqDiff, get_ne, reduceCtorEq, get_eq, readV_d, spent_t, exL_block, f_waferref11_number_l0_in, keepV_d, keepV_box, hl, evalK_build, one_i, cells_d1, vone_d, List.length_cons, List.length_nil, Nat.reduceLT, fillC_1, List.set_cons_zero, List.set_cons_succ, fillC_nil, aggO_some, mkAgg_eq, allD_d, allD_nil, consD_some, aggV_some, okS_some, killV_box, evalK_store, readV_box, storeV_lp, cells_agg, ones_cons, one_s, ones_nil, Bool.and_self, storeB_box, setCells_all, storeR_some, put_none, evalK_lenS, lenS_s, evalK_bin, isC_t, Bool.or_self, bin_lss, h1, decide_true, runOps_g, wantG_bt, wantC_b, ↓reduceIte, evalK_index, hix, Int.cast_ofNat_Int, isC_c, Bool.or_true, bin_eql, wantG_bf, Bool.not_true, Bool.false_eq_true, put_tup, evalK_pick, readV_tup, pickV_t, pickV_b, exL_cond, condC_b, bin_add, hw1, evalK_fieldAddr, faV_lp, put_lp, readV_lp, setCells_1, evalK_conv, rd_mv, takeV_d, spent_mv, Int.reduceEq, decide_false, exL_skip, bin_gtr, e1, evalK_load, loadV_lp, Nat.reduceLeDiff, boxV_A, List.drop_zero, List.take_succ_cons, List.take_zero, copy1_d, exL_ret, thenC_ret, finC_ret, resultVs_cons, resultV_cell, resC_box, resultV_t, ownV_d, resultVs_nil, consO_some, leaveC_2, leaves_tup, oks_cons, ok_d, oks_nil, ref_tup, refs_cons, ref_d, refs_nil, Nat.max_self, settle_tup, leave_pure, tok]
      all_goals rfl
    · have e1 : ((4294967295 : Int) < (h : Int)) = True := by rw [eq_iff_iff]; simp; omega
      rw [if_neg q]
      simp only [SyR, f_waferref11_number, f_waferref11_number_R1, argEnv_cons, Nat.zero_add, Nat.reduceAdd, argEnv_nil, exL_seq, exL_ops, runOps_n, evalK_allocL, List.map_cons, List.map_nil, opC_ok, put_box, killLp_cons, killV_d, killLp_nil, evalK_mov, rd_c, spent_c, put_d, runOps_nil, thenC_nrm, rd_t, Nat.reduceEqDiff, get_ne, reduceCtorEq, get_eq, readV_d, spent_t, exL_block, f_waferref11_number_l0_in, keepV_d, keepV_box, hl, evalK_build, one_i, cells_d1, vone_d, List.length_cons, List.length_nil, Nat.reduceLT, fillC_1, List.set_cons_zero, List.set_cons_succ, fillC_nil, aggO_some, mkAgg_eq, allD_d, allD_nil, consD_some, aggV_some, okS_some, killV_box, evalK_store, readV_box, storeV_lp, cells_agg, ones_cons, one_s, ones_nil, Bool.and_self, storeB_box, setCells_all, storeR_some, put_none, evalK_lenS, lenS_s, evalK_bin, isC_t, Bool.or_self, bin_lss, h1, decide_true, runOps_g, wantG_bt, wantC_b, ↓reduceIte, evalK_index, hix, Int.cast_ofNat_Int, isC_c, Bool.or_true, bin_eql, wantG_bf, Bool.not_true, Bool.false_eq_true, put_tup, evalK_pick, readV_tup, pickV_t, pickV_b, exL_cond, condC_b, bin_add, hw1, evalK_fieldAddr, faV_lp, put_lp, readV_lp, setCells_1, evalK_conv, rd_mv, takeV_d, spent_mv, Int.reduceEq, decide_false, exL_skip, bin_gtr, e1, exL_ret, thenC_ret, finC_ret, resultVs_cons, resultV_cell, resC_box, Nat.reduceLeDiff, boxV_A, List.drop_zero, List.take_succ_cons, List.take_zero, copy1_d, resultV_t, ownV_d, resultVs_nil, consO_some, leaveC_2, leaves_tup, oks_cons, ok_d, oks_nil, ref_tup, refs_cons, ref_d, refs_nil, Nat.max_self, settle_tup, leave_pure, tok]
      all_goals rfl
  · rw [if_neg hp]
    by_cases hp2 : pre [88] (s.drop (a + k)) = true
    · have hlt := pre1_lt hp2
      have h1 : (((a + k : Nat) : Int) < (s.length : Int)) = True := by rw [eq_iff_iff]; simp; omega
      have hix := ixA (pre1_at.1 hp2)
      have e72 : (((88 : Nat) : Int) = 72) = False := by simp
      have e88 : (((88 : Nat) : Int) = 88) = True := by simp
      rw [if_pos hp2]
      by_cases q : h ≤ 255
      · have e1 : ((4294967295 : Int) < (h : Int)) = False := by rw [eq_iff_iff]; simp; omega
        have e2 : ((255 : Int) < (h : Int)) = False := by rw [eq_iff_iff]; simp; omega
        rw [if_pos q]
        simp only [SyR, f_waferref11_number, f_waferref11_number_R1, argEnv_cons, Nat.zero_add, Nat.reduceAdd, argEnv_nil, exL_seq, exL_ops, runOps_n, evalK_allocL, List.map_cons, List.map_nil, opC_ok, put_box, killLp_cons, killV_d, killLp_nil, evalK_mov, rd_c, spent_c, put_d, runOps_nil, thenC_nrm, rd_t, Nat.reduceEqDiff, get_ne, reduceCtorEq, get_eq, readV_d, spent_t, exL_block, f_waferref11_number_l0_in, keepV_d, keepV_box, hl, evalK_build, one_i, cells_d1, vone_d, List.length_cons, List.length_nil, Nat.reduceLT, fillC_1, List.set_cons_zero, List.set_cons_succ, fillC_nil, aggO_some, mkAgg_eq, allD_d, allD_nil, consD_some, aggV_some, okS_some, killV_box, evalK_store, readV_box, storeV_lp, cells_agg, ones_cons, one_s, ones_nil, Bool.and_self, storeB_box, setCells_all, storeR_some, put_none, evalK_lenS, lenS_s, evalK_bin, isC_t, Bool.or_self, bin_lss, h1, decide_true, runOps_g, wantG_bt, wantC_b, ↓reduceIte, evalK_index, hix, Int.cast_ofNat_Int, isC_c, Bool.or_true, bin_eql, Int.reduceEq, decide_false, wantG_bf, Bool.not_false, evalK_pick, pickV_b, Bool.false_eq_true, exL_cond, condC_b, bin_add, hw1, evalK_fieldAddr, faV_lp, put_lp, readV_lp, setCells_1, evalK_conv, rd_mv, takeV_d, spent_mv, Nat.add_zero, bin_gtr, e2, exL_skip, e1, evalK_load, loadV_lp, Nat.reduceLeDiff, boxV_A, List.drop_zero, List.take_succ_cons, List.take_zero, copy1_d, exL_ret, thenC_ret, finC_ret, resultVs_cons, resultV_cell, resC_box, resultV_t, ownV_d, resultVs_nil, consO_some, leaveC_2, leaves_tup, oks_cons, ok_d, oks_nil, ref_tup, refs_cons, ref_d, refs_nil, Nat.max_self, settle_tup, leave_pure, tok]
        all_goals rfl
      · have e2 : ((255 : Int) < (h : Int)) = True := by rw [eq_iff_iff]; simp; omega
        rw [if_neg q]
        simp only [SyR, f_waferref11_number, f_waferref11_number_R1, argEnv_cons, Nat.zero_add, Nat.reduceAdd, argEnv_nil, exL_seq, exL_ops, runOps_n, evalK_allocL, List.map_cons, List.map_nil, opC_ok, put_box, killLp_cons, killV_d, killLp_nil, evalK_mov, rd_c, spent_c, put_d, runOps_nil, thenC_nrm, rd_t, Nat.reduceEqDiff, get_ne, reduceCtorEq, get_eq, readV_d, spent_t, exL_block, f_waferref11_number_l0_in, keepV_d, keepV_box, hl, evalK_build, one_i, cells_d1, vone_d, List.length_cons, List.length_nil, Nat.reduceLT, fillC_1, List.set_cons_zero, List.set_cons_succ, fillC_nil, aggO_some, mkAgg_eq, allD_d, allD_nil, consD_some, aggV_some, okS_some, killV_box, evalK_store, readV_box, storeV_lp, cells_agg, ones_cons, one_s, ones_nil, Bool.and_self, storeB_box, setCells_all, storeR_some, put_none, evalK_lenS, lenS_s, evalK_bin, isC_t, Bool.or_self, bin_lss, h1, decide_true, runOps_g, wantG_bt, wantC_b, ↓reduceIte, evalK_index, hix, Int.cast_ofNat_Int, isC_c, Bool.or_true, bin_eql, Int.reduceEq, decide_false, wantG_bf, Bool.not_false, evalK_pick, pickV_b, Bool.false_eq_true, exL_cond, condC_b, bin_add, hw1, evalK_fieldAddr, faV_lp, put_lp, readV_lp, setCells_1, evalK_conv, rd_mv, takeV_d, spent_mv, Nat.add_zero, bin_gtr, e2, exL_ret, thenC_ret, finC_ret, resultVs_cons, resultV_cell, resC_box, Nat.reduceLeDiff, boxV_A, List.drop_zero, List.take_succ_cons, List.take_zero, copy1_d, resultV_t, ownV_d, resultVs_nil, consO_some, leaveC_2, leaves_tup, oks_cons, ok_d, oks_nil, ref_tup, refs_cons, ref_d, refs_nil, Nat.max_self, settle_tup, leave_pure, tok]
        all_goals rfl
    · rw [if_neg hp2]
      have hdu : d ≤ 2147483647 → wr .u32 (d : Int) = (d : Int) := fun h => wr_u32 (by omega) (by omega)
      have tail : ∀ X, X = finC H false [.cell 4 ⟨5, true⟩, .t 5] (exL pg f_waferref11_number.body ⟨argEnv 0 [.d (.s s), .d (.i .i64 (a : Nat))], H, H.length⟩) → SyR H a (match (if p = true ∧ d ≤ 2147483647 then some d else none) with | none => Sy.bad 30 | some u => .ok 2 [] (wr .i32 (wr .u32 (u : Nat))) (a + k)) X := by
        intro X hX
        rw [hX]
        have cases72 : (∃ c, (((a + k : Nat) : Int) < (s.length : Int)) = True ∧ ixV (.d (.s s)) (.d (.i .i64 ((a + k : Nat) : Int))) = some (.d (.i .u8 ((c : Nat) : Int))) ∧ (((c : Nat) : Int) = 72) = False ∧ (((c : Nat) : Int) = 88) = False) ∨ (((a + k : Nat) : Int) < (s.length : Int)) = False := by
          by_cases hlt : a + k < s.length
          · left
            have hg := List.getElem?_eq_getElem hlt
            refine ⟨s[a + k], by rw [eq_iff_iff]; simp; omega, ixA hg, eq_false (fun h => hp (pre1_at.2 (by rw [hg]; exact congrArg some (by exact_mod_cast h)))), eq_false (fun h => hp2 (pre1_at.2 (by rw [hg]; exact congrArg some (by exact_mod_cast h))))⟩
          · right; rw [eq_iff_iff]; simp; omega
        by_cases q : p = true ∧ d ≤ 2147483647
        · have e1 : ((2147483647 : Int) < (d : Int)) = False := by rw [eq_iff_iff]; simp; omega
          rw [if_pos q]
          simp only [q.1] at hl
          have hd2 := hdu q.2
          rcases cases72 with ⟨c, h1, hix, e72, e88⟩ | h1
          · simp only [SyR, f_waferref11_number, f_waferref11_number_R1, argEnv_cons, Nat.zero_add, Nat.reduceAdd, argEnv_nil, exL_seq, exL_ops, runOps_n, evalK_allocL, List.map_cons, List.map_nil, opC_ok, put_box, killLp_cons, killV_d, killLp_nil, evalK_mov, rd_c, spent_c, put_d, runOps_nil, thenC_nrm, rd_t, Nat.reduceEqDiff, get_ne, reduceCtorEq, get_eq, readV_d, spent_t, exL_block, f_waferref11_number_l0_in, keepV_d, keepV_box, hl, evalK_build, one_i, cells_d1, vone_d, List.length_cons, List.length_nil, Nat.reduceLT, fillC_1, List.set_cons_zero, List.set_cons_succ, fillC_nil, aggO_some, mkAgg_eq, allD_d, allD_nil, consD_some, aggV_some, okS_some, killV_box, evalK_store, readV_box, storeV_lp, cells_agg, ones_cons, one_s, ones_nil, Bool.and_self, storeB_box, setCells_all, storeR_some, put_none, evalK_lenS, lenS_s, evalK_bin, isC_t, Bool.or_self, bin_lss, h1, decide_true, runOps_g, wantG_bt, wantC_b, ↓reduceIte, evalK_index, hix, isC_c, Bool.or_true, bin_eql, e72, decide_false, wantG_bf, Bool.not_false, e88, evalK_pick, pickV_b, Bool.false_eq_true, exL_cond, condC_b, exL_skip, evalK_un, un_not, Bool.not_true, Option.map_some, bin_gtr, e1, evalK_conv, evalK_fieldAddr, faV_lp, put_lp, rd_mv, takeV_d, readV_lp, spent_mv, setCells_1, evalK_load, loadV_lp, Nat.reduceLeDiff, boxV_A, List.drop_zero, List.take_succ_cons, List.take_zero, copy1_d, exL_ret, finC_ret, resultVs_cons, resultV_cell, resC_box, resultV_t, ownV_d, resultVs_nil, consO_some, leaveC_2, leaves_tup, oks_cons, ok_d, oks_nil, ref_tup, refs_cons, ref_d, refs_nil, Nat.max_self, settle_tup, leave_pure, tok, hd2]
            all_goals rfl
          · simp only [SyR, f_waferref11_number, f_waferref11_number_R1, argEnv_cons, Nat.zero_add, Nat.reduceAdd, argEnv_nil, exL_seq, exL_ops, runOps_n, evalK_allocL, List.map_cons, List.map_nil, opC_ok, put_box, killLp_cons, killV_d, killLp_nil, evalK_mov, rd_c, spent_c, put_d, runOps_nil, thenC_nrm, rd_t, Nat.reduceEqDiff, get_ne, reduceCtorEq, get_eq, readV_d, spent_t, exL_block, f_waferref11_number_l0_in, keepV_d, keepV_box, hl, evalK_build, one_i, cells_d1, vone_d, List.length_cons, List.length_nil, Nat.reduceLT, fillC_1, List.set_cons_zero, List.set_cons_succ, fillC_nil, aggO_some, mkAgg_eq, allD_d, allD_nil, consD_some, aggV_some, okS_some, killV_box, evalK_store, readV_box, storeV_lp, cells_agg, ones_cons, one_s, ones_nil, Bool.and_self, storeB_box, setCells_all, storeR_some, put_none, evalK_lenS, lenS_s, evalK_bin, isC_t, Bool.or_self, bin_lss, h1, decide_false, runOps_g, wantG_bt, wantC_b, Bool.false_eq_true, ↓reduceIte, put_tup, wantG_t, evalK_pick, readV_tup, pickV_f, exL_cond, condC_b, exL_skip, evalK_un, un_not, Bool.not_true, Option.map_some, wantG_bf, Bool.not_false, isC_c, Bool.or_true, bin_gtr, e1, pickV_b, evalK_conv, evalK_fieldAddr, faV_lp, put_lp, rd_mv, takeV_d, readV_lp, spent_mv, setCells_1, evalK_load, loadV_lp, Nat.reduceLeDiff, boxV_A, List.drop_zero, List.take_succ_cons, List.take_zero, copy1_d, exL_ret, finC_ret, resultVs_cons, resultV_cell, resC_box, resultV_t, ownV_d, resultVs_nil, consO_some, leaveC_2, leaves_tup, oks_cons, ok_d, oks_nil, ref_tup, refs_cons, ref_d, refs_nil, Nat.max_self, settle_tup, leave_pure, tok, hd2]
            all_goals rfl
        · rw [if_neg q]
          cases hpp : p with
          | false =>
            simp only [hpp] at hl
            rcases cases72 with ⟨c, h1, hix, e72, e88⟩ | h1
            · simp only [SyR, f_waferref11_number, f_waferref11_number_R1, argEnv_cons, Nat.zero_add, Nat.reduceAdd, argEnv_nil, exL_seq, exL_ops, runOps_n, evalK_allocL, List.map_cons, List.map_nil, opC_ok, put_box, killLp_cons, killV_d, killLp_nil, evalK_mov, rd_c, spent_c, put_d, runOps_nil, thenC_nrm, rd_t, Nat.reduceEqDiff, get_ne, reduceCtorEq, get_eq, readV_d, spent_t, exL_block, f_waferref11_number_l0_in, keepV_d, keepV_box, hl, evalK_build, one_i, cells_d1, vone_d, List.length_cons, List.length_nil, Nat.reduceLT, fillC_1, List.set_cons_zero, List.set_cons_succ, fillC_nil, aggO_some, mkAgg_eq, allD_d, allD_nil, consD_some, aggV_some, okS_some, killV_box, evalK_store, readV_box, storeV_lp, cells_agg, ones_cons, one_s, ones_nil, Bool.and_self, storeB_box, setCells_all, storeR_some, put_none, evalK_lenS, lenS_s, evalK_bin, isC_t, Bool.or_self, bin_lss, h1, decide_true, runOps_g, wantG_bt, wantC_b, ↓reduceIte, evalK_index, hix, isC_c, Bool.or_true, bin_eql, e72, decide_false, wantG_bf, Bool.not_false, e88, evalK_pick, pickV_b, Bool.false_eq_true, exL_cond, condC_b, exL_skip, evalK_un, un_not, Option.map_some, Bool.not_true, put_tup, readV_tup, pickV_t, exL_ret, thenC_ret, finC_ret, resultVs_cons, resultV_cell, resC_box, Nat.reduceLeDiff, boxV_A, List.drop_zero, List.take_succ_cons, List.take_zero, copy1_d, resultV_t, ownV_d, resultVs_nil, consO_some, leaveC_2, leaves_tup, oks_cons, ok_d, oks_nil, ref_tup, refs_cons, ref_d, refs_nil, Nat.max_self, settle_tup, leave_pure, tok]
              all_goals rfl
            · simp only [SyR, f_waferref11_number, f_waferref11_number_R1, argEnv_cons, Nat.zero_add, Nat.reduceAdd, argEnv_nil, exL_seq, exL_ops, runOps_n, evalK_allocL, List.map_cons, List.map_nil, opC_ok, put_box, killLp_cons, killV_d, killLp_nil, evalK_mov, rd_c, spent_c, put_d, runOps_nil, thenC_nrm, rd_t, Nat.reduceEqDiff, get_ne, reduceCtorEq, get_eq, readV_d, spent_t, exL_block, f_waferref11_number_l0_in, keepV_d, keepV_box, hl, evalK_build, one_i, cells_d1, vone_d, List.length_cons, List.length_nil, Nat.reduceLT, fillC_1, List.set_cons_zero, List.set_cons_succ, fillC_nil, aggO_some, mkAgg_eq, allD_d, allD_nil, consD_some, aggV_some, okS_some, killV_box, evalK_store, readV_box, storeV_lp, cells_agg, ones_cons, one_s, ones_nil, Bool.and_self, storeB_box, setCells_all, storeR_some, put_none, evalK_lenS, lenS_s, evalK_bin, isC_t, Bool.or_self, bin_lss, h1, decide_false, runOps_g, wantG_bt, wantC_b, Bool.false_eq_true, ↓reduceIte, put_tup, wantG_t, evalK_pick, readV_tup, pickV_f, exL_cond, condC_b, exL_skip, evalK_un, un_not, Bool.not_false, Option.map_some, wantG_bf, Bool.not_true, pickV_t, exL_ret, thenC_ret, finC_ret, resultVs_cons, resultV_cell, resC_box, Nat.reduceLeDiff, boxV_A, List.drop_zero, List.take_succ_cons, List.take_zero, copy1_d, resultV_t, ownV_d, resultVs_nil, consO_some, leaveC_2, leaves_tup, oks_cons, ok_d, oks_nil, ref_tup, refs_cons, ref_d, refs_nil, Nat.max_self, settle_tup, leave_pure, tok]
              all_goals rfl
          | true =>
            simp only [hpp] at hl
            have e1 : ((2147483647 : Int) < (d : Int)) = True := by rw [eq_iff_iff]; simp; by_cases hh : d ≤ 2147483647; exact absurd ⟨hpp, hh⟩ q; omega
            rcases cases72 with ⟨c, h1, hix, e72, e88⟩ | h1
            · simp only [SyR, f_waferref11_number, f_waferref11_number_R1, argEnv_cons, Nat.zero_add, Nat.reduceAdd, argEnv_nil, exL_seq, exL_ops, runOps_n, evalK_allocL, List.map_cons, List.map_nil, opC_ok, put_box, killLp_cons, killV_d, killLp_nil, evalK_mov, rd_c, spent_c, put_d, runOps_nil, thenC_nrm, rd_t, Nat.reduceEqDiff, get_ne, reduceCtorEq, get_eq, readV_d, spent_t, exL_block, f_waferref11_number_l0_in, keepV_d, keepV_box, hl, evalK_build, one_i, cells_d1, vone_d, List.length_cons, List.length_nil, Nat.reduceLT, fillC_1, List.set_cons_zero, List.set_cons_succ, fillC_nil, aggO_some, mkAgg_eq, allD_d, allD_nil, consD_some, aggV_some, okS_some, killV_box, evalK_store, readV_box, storeV_lp, cells_agg, ones_cons, one_s, ones_nil, Bool.and_self, storeB_box, setCells_all, storeR_some, put_none, evalK_lenS, lenS_s, evalK_bin, isC_t, Bool.or_self, bin_lss, h1, decide_true, runOps_g, wantG_bt, wantC_b, ↓reduceIte, evalK_index, hix, isC_c, Bool.or_true, bin_eql, e72, decide_false, wantG_bf, Bool.not_false, e88, evalK_pick, pickV_b, Bool.false_eq_true, exL_cond, condC_b, exL_skip, evalK_un, un_not, Bool.not_true, Option.map_some, bin_gtr, e1, exL_ret, thenC_ret, finC_ret, resultVs_cons, resultV_cell, resC_box, Nat.reduceLeDiff, boxV_A, List.drop_zero, List.take_succ_cons, List.take_zero, copy1_d, resultV_t, ownV_d, resultVs_nil, consO_some, leaveC_2, leaves_tup, oks_cons, ok_d, oks_nil, ref_tup, refs_cons, ref_d, refs_nil, Nat.max_self, settle_tup, leave_pure, tok]
              all_goals rfl
            · simp only [SyR, f_waferref11_number, f_waferref11_number_R1, argEnv_cons, Nat.zero_add, Nat.reduceAdd, argEnv_nil, exL_seq, exL_ops, runOps_n, evalK_allocL, List.map_cons, List.map_nil, opC_ok, put_box, killLp_cons, killV_d, killLp_nil, evalK_mov, rd_c, spent_c, put_d, runOps_nil, thenC_nrm, rd_t, Nat.reduceEqDiff, get_ne, reduceCtorEq, get_eq, readV_d, spent_t, exL_block, f_waferref11_number_l0_in, keepV_d, keepV_box, hl, evalK_build, one_i, cells_d1, vone_d, List.length_cons, List.length_nil, Nat.reduceLT, fillC_1, List.set_cons_zero, List.set_cons_succ, fillC_nil, aggO_some, mkAgg_eq, allD_d, allD_nil, consD_some, aggV_some, okS_some, killV_box, evalK_store, readV_box, storeV_lp, cells_agg, ones_cons, one_s, ones_nil, Bool.and_self, storeB_box, setCells_all, storeR_some, put_none, evalK_lenS, lenS_s, evalK_bin, isC_t, Bool.or_self, bin_lss, h1, decide_false, runOps_g, wantG_bt, wantC_b, Bool.false_eq_true, ↓reduceIte, put_tup, wantG_t, evalK_pick, readV_tup, pickV_f, exL_cond, condC_b, exL_skip, evalK_un, un_not, Bool.not_true, Option.map_some, wantG_bf, Bool.not_false, isC_c, Bool.or_true, bin_gtr, e1, decide_true, pickV_b, exL_ret, thenC_ret, finC_ret, resultVs_cons, resultV_cell, resC_box, Nat.reduceLeDiff, boxV_A, List.drop_zero, List.take_succ_cons, List.take_zero, copy1_d, resultV_t, ownV_d, resultVs_nil, consO_some, leaveC_2, leaves_tup, oks_cons, ok_d, oks_nil, ref_tup, refs_cons, ref_d, refs_nil, Nat.max_self, settle_tup, leave_pure, tok]
              all_goals rfl
      exact tail _ rfl
end W

set_option linter.unusedSimpArgs false
set_option linter.unusedVariables false
namespace W
open Go (IntKind BinOp UnOp)
set_option maxRecDepth 20000
theorem named_loop {s : List Nat} (hz : s.length ≤ 1000000) {v1 : Int} {v4 : List V} {H : List Obj} :
    ∀ (k j : Nat), s.length - j = k → j ≤ s.length → blockC 1 [0, 1, 4, 7] (f_waferref11_symbol_l0 pg (.d (.s s)) (.d (.i .i64 v1)) (.box v4) (.d (.i .i64 (j : Nat))) H H.length) = some (.nrm, ⟨[(0, .d (.s s)), (1, .d (.i .i64 v1)), (4, .box v4), (7, .d (.i .i64 ((j + run cNm (s.drop j) : Nat) : Int)))], H, H.length⟩) := by
  intro k
  induction k with
  | zero =>
    intro j hk hj
    obtain rfl : j = s.length := by omega
    have h1 : ((s.length : Int) < (s.length : Int)) = False := by simp
    rw [f_waferref11_symbol_l0_eq]
    have hr : run cNm (s.drop s.length) = 0 := by simp [run]
    rw [hr]
    simp only [f_waferref11_symbol_B0, keepV_d, keepV_box, exL_seq, exL_ops, runOps_n, evalK_mov, rd_t, reduceCtorEq, get_ne, Nat.reduceEqDiff, get_eq, readV_d, spent_t, opC_ok, put_d, evalK_lenS, lenS_s, okS_some, evalK_bin, isC_t, Bool.or_self, bin_lss, h1, decide_false, runOps_g, wantG_bt, wantC_b, Bool.false_eq_true, ↓reduceIte, put_tup, wantG_t, evalK_pick, readV_tup, rd_c, pickV_f, runOps_nil, thenC_nrm, exL_cond, condC_b, exL_exit, thenC_exit, blockC_exit, restrict_cons, restrict_nil, Nat.add_zero]
    all_goals rfl
  | succ k ih =>
    intro j hk hj
    have h1 : ((j : Int) < (s.length : Int)) = True := by rw [eq_iff_iff]; simp; omega
    have hlt : j < s.length := by omega
    have hdr := drop_cons hlt
    have hix : ixV (.d (.s s)) (.d (.i .i64 (j : Int))) = some (.d (.i .u8 ((s[j] : Nat) : Int))) := ixA (List.getElem?_eq_getElem hlt)
    have hw : wr .i64 ((j : Int) + 1) = ((j + 1 : Nat) : Int) := by rw [wr_i64 (by omega) (by omega)]; omega
    rw [f_waferref11_symbol_l0_eq, hdr]
    generalize s[j] = c at hix
    have hc1 := rletter_call (c := c) (H := H)
    have hc2 := rdigit_call (c := c) (H := H)
    have ih' := ih (j + 1) (by omega) (by omega)
    cases q1 : cLt c with
    | true =>
      rw [q1] at hc1
      have hr : j + run cNm (c :: s.drop (j + 1)) = j + 1 + run cNm (s.drop (j + 1)) := by simp [run, cNm, q1]; omega
      rw [hr]
      simp only [f_waferref11_symbol_B0, keepV_d, keepV_box, exL_seq, exL_ops, runOps_n, evalK_mov, rd_t, reduceCtorEq, get_ne, Nat.reduceEqDiff, get_eq, readV_d, spent_t, opC_ok, put_d, evalK_lenS, lenS_s, okS_some, evalK_bin, isC_t, Bool.or_self, bin_lss, h1, decide_true, runOps_g, wantG_bt, wantC_b, ↓reduceIte, evalK_index, hix, evalK_call, List.map_cons, List.map_nil, allLeave_cons, leaves_d, allLeave_nil, Bool.and_self, eCall_f, hc1, callC_some, spentAll_cons, spentAll_nil, Nat.min_self, rd_mv, takeV_d, spent_mv, wantG_bf, Bool.not_true, Bool.false_eq_true, put_tup, evalK_pick, rd_c, readV_tup, pickV_t, pickV_b, runOps_nil, thenC_nrm, exL_cond, condC_b, exL_skip, exL_block, isC_c, Bool.or_true, bin_add, hw, blockC_nrm, restrict_cons, restrict_nil, f_waferref11_symbol_l0_in]
      exact ih'
    | false =>
      rw [q1] at hc1
      cases q2 : cDg c with
      | true =>
        rw [q2] at hc2
        have hr : j + run cNm (c :: s.drop (j + 1)) = j + 1 + run cNm (s.drop (j + 1)) := by simp [run, cNm, q1, q2]; omega
        rw [hr]
        simp only [f_waferref11_symbol_B0, keepV_d, keepV_box, exL_seq, exL_ops, runOps_n, evalK_mov, rd_t, reduceCtorEq, get_ne, Nat.reduceEqDiff, get_eq, readV_d, spent_t, opC_ok, put_d, evalK_lenS, lenS_s, okS_some, evalK_bin, isC_t, Bool.or_self, bin_lss, h1, decide_true, runOps_g, wantG_bt, wantC_b, ↓reduceIte, evalK_index, hix, evalK_call, List.map_cons, List.map_nil, allLeave_cons, leaves_d, allLeave_nil, Bool.and_self, eCall_f, hc1, callC_some, spentAll_cons, spentAll_nil, Nat.min_self, rd_mv, takeV_d, spent_mv, wantG_bf, Bool.not_false, hc2, evalK_pick, rd_c, pickV_b, Bool.false_eq_true, runOps_nil, thenC_nrm, exL_cond, condC_b, exL_skip, exL_block, isC_c, Bool.or_true, bin_add, hw, blockC_nrm, restrict_cons, restrict_nil, f_waferref11_symbol_l0_in]
        exact ih'
      | false =>
        rw [q2] at hc2
        have hr : run cNm (c :: s.drop (j + 1)) = 0 := by simp [run, cNm, q1, q2]
        rw [hr]
        simp only [f_waferref11_symbol_B0, keepV_d, keepV_box, exL_seq, exL_ops, runOps_n, evalK_mov, rd_t, reduceCtorEq, get_ne, Nat.reduceEqDiff, get_eq, readV_d, spent_t, opC_ok, put_d, evalK_lenS, lenS_s, okS_some, evalK_bin, isC_t, Bool.or_self, bin_lss, h1, decide_true, runOps_g, wantG_bt, wantC_b, ↓reduceIte, evalK_index, hix, evalK_call, List.map_cons, List.map_nil, allLeave_cons, leaves_d, allLeave_nil, Bool.and_self, eCall_f, hc1, callC_some, spentAll_cons, spentAll_nil, Nat.min_self, rd_mv, takeV_d, spent_mv, wantG_bf, Bool.not_false, hc2, evalK_pick, rd_c, pickV_b, Bool.false_eq_true, runOps_nil, thenC_nrm, exL_cond, condC_b, exL_exit, thenC_exit, blockC_exit, restrict_cons, restrict_nil, Nat.add_zero]
        all_goals rfl
theorem symbol_call {s : List Nat} (hz : s.length ≤ 1000000) {a : Nat} {H : List Obj} (ha : a < s.length) : SyR H a (symS s a) (callL pg 26 [.d (.s s), .d (.i .i64 (a : Nat))] H) := by
  have hL := drop_cons ha
  have hix : ixV (.d (.s s)) (.d (.i .i64 (a : Int))) = some (.d (.i .u8 ((s[a] : Nat) : Int))) := ixA (List.getElem?_eq_getElem ha)
  have hsym : symS s a = if cLt s[a] = true then wordS s a else if cDg s[a] = true then numS s a else if s[a] = 34 then textS s a else signS s a s[a] := by
    unfold symS; rw [hL]
  rw [hsym]
  generalize s[a] = c at hix hL
  have hc1 := rletter_call (c := c) (H := H)
  have hc2 := rdigit_call (c := c) (H := H)
  rw [callL_fn (fn := f_waferref11_symbol) rfl rfl]
  cases q1 : cLt c with
  | true =>
    rw [q1] at hc1
    rw [if_pos rfl]
    have hl := fun v4 => named_loop hz (v1 := (a : Int)) (v4 := v4) (H := H) (s.length - a) a rfl (by omega)
    have hle := run_le cNm (s.drop a)
    have hlen : ((s.drop a).take (run cNm (s.drop a))).length = run cNm (s.drop a) := by simp only [List.length_take]; omega
    simp only [List.length_drop] at hle
    unfold wordS
    have hmid := sl_mid (l := s) (a := a) (b := a + run cNm (s.drop a)) (by omega) (by omega)
    have hmm : (s.take (a + run cNm (s.drop a))).drop a = (s.drop a).take (run cNm (s.drop a)) := by
      rw [List.drop_take]; congr 1; omega
    rw [hmm] at hmid
    generalize run cNm (s.drop a) = k at *
    generalize (s.drop a).take k = t at *
    have hw1 : wr .i64 (((a + k : Nat) : Int) - (a : Int)) = (k : Int) := by rw [wr_i64 (by omega) (by omega)]; omega
    have hkw := keyword_call (t := t) (H := H)
    by_cases h32 : 32 < k
    · have e1 : ((32 : Int) < (k : Int)) = True := by rw [eq_iff_iff]; simp; omega
      rw [if_pos h32]
      simp only [SyR, f_waferref11_symbol, f_waferref11_symbol_R1, argEnv_cons, Nat.zero_add, Nat.reduceAdd, argEnv_nil, exL_seq, exL_ops, runOps_n, evalK_allocL, List.map_cons, List.map_nil, opC_ok, put_box, killLp_cons, killV_d, killLp_nil, evalK_mov, rd_c, spent_c, put_d, runOps_nil, thenC_nrm, rd_t, reduceCtorEq, get_ne, get_eq, readV_d, spent_t, Nat.reduceEqDiff, evalK_index, hix, okS_some, exL_block, evalK_call, allLeave_cons, leaves_d, allLeave_nil, Bool.and_self, eCall_f, hc1, callC_some, spentAll_cons, spentAll_nil, Nat.min_self, rd_mv, takeV_d, spent_mv, exL_cond, condC_b, ↓reduceIte, f_waferref11_symbol_l0_in, keepV_d, keepV_box, hl, evalK_bin, isC_t, Bool.or_self, bin_sub, hw1, isC_c, Bool.or_true, bin_gtr, e1, decide_true, evalK_build, fillC_nil, aggO_some, mkAgg_eq, allD_d, allD_nil, consD_some, aggV_some, evalK_store, readV_box, storeV_lp, cells_agg, List.length_cons, List.length_nil, ones_cons, vone_d, one_i, one_s, ones_nil, storeB_box, setCells_all, storeR_some, put_none, exL_ret, thenC_ret, blockC_ret, finC_ret, resultVs_cons, resultV_cell, resC_box, Nat.reduceLeDiff, boxV_A, List.drop_zero, List.take_succ_cons, List.take_zero, copy1_d, resultV_t, ownV_d, resultVs_nil, consO_some, leaveC_2, leaves_tup, oks_cons, ok_d, oks_nil, ref_tup, refs_cons, ref_d, refs_nil, Nat.max_self, settle_tup, leave_pure, tok]
      all_goals rfl
    · have e1 : ((32 : Int) < (k : Int)) = False := by rw [eq_iff_iff]; simp; omega
      rw [if_neg h32]
      by_cases hk : t ∈ KW
      · rw [if_pos hk]
        rw [decide_eq_true hk] at hkw
        simp only [SyR, f_waferref11_symbol, f_waferref11_symbol_R1, argEnv_cons, Nat.zero_add, Nat.reduceAdd, argEnv_nil, exL_seq, exL_ops, runOps_n, evalK_allocL, List.map_cons, List.map_nil, opC_ok, put_box, killLp_cons, killV_d, killLp_nil, evalK_mov, rd_c, spent_c, put_d, runOps_nil, thenC_nrm, rd_t, reduceCtorEq, get_ne, get_eq, readV_d, spent_t, Nat.reduceEqDiff, evalK_index, hix, okS_some, exL_block, evalK_call, allLeave_cons, leaves_d, allLeave_nil, Bool.and_self, eCall_f, hc1, callC_some, spentAll_cons, spentAll_nil, Nat.min_self, rd_mv, takeV_d, spent_mv, exL_cond, condC_b, ↓reduceIte, f_waferref11_symbol_l0_in, keepV_d, keepV_box, hl, evalK_bin, isC_t, Bool.or_self, bin_sub, hw1, isC_c, Bool.or_true, bin_gtr, e1, decide_false, Bool.false_eq_true, exL_skip, evalK_sliceS, optInt_some, oInt_i, cut2_some, hmid, evalK_build, one_i, cells_d1, vone_d, List.length_cons, List.length_nil, Nat.reduceLT, fillC_1, List.set_cons_zero, List.set_cons_succ, one_s, fillC_nil, aggO_some, mkAgg_eq, allD_d, allD_nil, consD_some, aggV_some, killV_box, evalK_store, readV_box, storeV_lp, cells_agg, ones_cons, ones_nil, storeB_box, setCells_all, storeR_some, put_none, evalK_fieldAddr, faV_lp, put_lp, evalK_load, readV_lp, loadV_lp, boxV_1, List.getElem?_cons_succ, List.getElem?_cons_zero, Option.map_some, copy1_d, hkw, Nat.add_zero, setCells_1, Nat.reduceLeDiff, boxV_A, List.drop_zero, List.take_succ_cons, List.take_zero, exL_ret, blockC_ret, thenC_ret, finC_ret, resultVs_cons, resultV_cell, resC_box, resultV_t, ownV_d, resultVs_nil, consO_some, leaveC_2, leaves_tup, oks_cons, ok_d, oks_nil, ref_tup, refs_cons, ref_d, refs_nil, Nat.max_self, settle_tup, leave_pure, tok]
        all_goals rfl
      · rw [if_neg hk]
        rw [decide_eq_false hk] at hkw
        simp only [SyR, f_waferref11_symbol, f_waferref11_symbol_R1, argEnv_cons, Nat.zero_add, Nat.reduceAdd, argEnv_nil, exL_seq, exL_ops, runOps_n, evalK_allocL, List.map_cons, List.map_nil, opC_ok, put_box, killLp_cons, killV_d, killLp_nil, evalK_mov, rd_c, spent_c, put_d, runOps_nil, thenC_nrm, rd_t, reduceCtorEq, get_ne, get_eq, readV_d, spent_t, Nat.reduceEqDiff, evalK_index, hix, okS_some, exL_block, evalK_call, allLeave_cons, leaves_d, allLeave_nil, Bool.and_self, eCall_f, hc1, callC_some, spentAll_cons, spentAll_nil, Nat.min_self, rd_mv, takeV_d, spent_mv, exL_cond, condC_b, ↓reduceIte, f_waferref11_symbol_l0_in, keepV_d, keepV_box, hl, evalK_bin, isC_t, Bool.or_self, bin_sub, hw1, isC_c, Bool.or_true, bin_gtr, e1, decide_false, Bool.false_eq_true, exL_skip, evalK_sliceS, optInt_some, oInt_i, cut2_some, hmid, evalK_build, one_i, cells_d1, vone_d, List.length_cons, List.length_nil, Nat.reduceLT, fillC_1, List.set_cons_zero, List.set_cons_succ, one_s, fillC_nil, aggO_some, mkAgg_eq, allD_d, allD_nil, consD_some, aggV_some, killV_box, evalK_store, readV_box, storeV_lp, cells_agg, ones_cons, ones_nil, storeB_box, setCells_all, storeR_some, put_none, evalK_fieldAddr, faV_lp, put_lp, evalK_load, readV_lp, loadV_lp, boxV_1, List.getElem?_cons_succ, List.getElem?_cons_zero, Option.map_some, copy1_d, hkw, Nat.reduceLeDiff, boxV_A, List.drop_zero, List.take_succ_cons, List.take_zero, exL_ret, blockC_ret, thenC_ret, finC_ret, resultVs_cons, resultV_cell, resC_box, resultV_t, ownV_d, resultVs_nil, consO_some, leaveC_2, leaves_tup, oks_cons, ok_d, oks_nil, ref_tup, refs_cons, ref_d, refs_nil, Nat.max_self, settle_tup, leave_pure, tok]
        all_goals rfl
  | false =>
    rw [q1] at hc1
    rw [if_neg (by simp)]
    cases q2 : cDg c with
    | true =>
      rw [q2] at hc2
      rw [if_pos rfl]
      have hn := rnumber_call hz (a := a) (H := H) (by omega)
      generalize numS s a = r at hn
      cases r with
      | ok k t n a' =>
        simp only [SyR, tok] at hn
        simp only [SyR, f_waferref11_symbol, argEnv_cons, Nat.zero_add, Nat.reduceAdd, argEnv_nil, exL_seq, exL_ops, runOps_n, evalK_allocL, List.map_cons, List.map_nil, opC_ok, put_box, killLp_cons, killV_d, killLp_nil, evalK_mov, rd_c, spent_c, put_d, runOps_nil, thenC_nrm, rd_t, reduceCtorEq, get_ne, get_eq, readV_d, spent_t, Nat.reduceEqDiff, evalK_index, hix, okS_some, exL_block, evalK_call, allLeave_cons, leaves_d, allLeave_nil, Bool.and_self, eCall_f, hc1, callC_some, spentAll_cons, spentAll_nil, Nat.min_self, rd_mv, takeV_d, spent_mv, exL_cond, condC_b, Bool.false_eq_true, ↓reduceIte, hc2, hn, put_tup, evalK_extract, extV_0, copy_d, extV_1, evalK_store, readV_box, storeV_lp, cells_agg, List.length_cons, List.length_nil, ones_cons, vone_d, one_i, one_s, ones_nil, storeB_box, setCells_all, storeR_some, put_none, exL_ret, blockC_ret, thenC_ret, finC_ret, resultVs_cons, resultV_cell, resC_box, Nat.reduceLeDiff, boxV_A, List.drop_zero, List.take_succ_cons, List.take_zero, copy1_d, mkAgg_eq, allD_d, allD_nil, consD_some, aggV_some, resultV_t, ownV_d, resultVs_nil, consO_some, leaveC_2, leaves_tup, oks_cons, ok_d, oks_nil, ref_tup, refs_cons, ref_d, refs_nil, Nat.max_self, settle_tup, leave_pure, tok]
        all_goals rfl
      | bad e =>
        simp only [SyR, tok] at hn
        simp only [SyR, f_waferref11_symbol, argEnv_cons, Nat.zero_add, Nat.reduceAdd, argEnv_nil, exL_seq, exL_ops, runOps_n, evalK_allocL, List.map_cons, List.map_nil, opC_ok, put_box, killLp_cons, killV_d, killLp_nil, evalK_mov, rd_c, spent_c, put_d, runOps_nil, thenC_nrm, rd_t, reduceCtorEq, get_ne, get_eq, readV_d, spent_t, Nat.reduceEqDiff, evalK_index, hix, okS_some, exL_block, evalK_call, allLeave_cons, leaves_d, allLeave_nil, Bool.and_self, eCall_f, hc1, callC_some, spentAll_cons, spentAll_nil, Nat.min_self, rd_mv, takeV_d, spent_mv, exL_cond, condC_b, Bool.false_eq_true, ↓reduceIte, hc2, hn, put_tup, evalK_extract, extV_0, copy_d, extV_1, evalK_store, readV_box, storeV_lp, cells_agg, List.length_cons, List.length_nil, ones_cons, vone_d, one_i, one_s, ones_nil, storeB_box, setCells_all, storeR_some, put_none, exL_ret, blockC_ret, thenC_ret, finC_ret, resultVs_cons, resultV_cell, resC_box, Nat.reduceLeDiff, boxV_A, List.drop_zero, List.take_succ_cons, List.take_zero, copy1_d, mkAgg_eq, allD_d, allD_nil, consD_some, aggV_some, resultV_t, ownV_d, resultVs_nil, consO_some, leaveC_2, leaves_tup, oks_cons, ok_d, oks_nil, ref_tup, refs_cons, ref_d, refs_nil, Nat.max_self, settle_tup, leave_pure, tok]
        all_goals rfl
    | false =>
      rw [q2] at hc2
      rw [if_neg (by simp)]
      by_cases h34 : c = 34
      · have e34 : ((c : Int) = 34) = True := by rw [eq_iff_iff]; simp; omega
        rw [if_pos h34]
        have hn := quoted_call hz (a := a) (H := H) ha
        generalize textS s a = r at hn
        cases r with
        | ok k t n a' =>
          simp only [SyR, tok] at hn
          simp only [SyR, f_waferref11_symbol, argEnv_cons, Nat.zero_add, Nat.reduceAdd, argEnv_nil, exL_seq, exL_ops, runOps_n, evalK_allocL, List.map_cons, List.map_nil, opC_ok, put_box, killLp_cons, killV_d, killLp_nil, evalK_mov, rd_c, spent_c, put_d, runOps_nil, thenC_nrm, rd_t, reduceCtorEq, get_ne, get_eq, readV_d, spent_t, Nat.reduceEqDiff, evalK_index, hix, okS_some, exL_block, evalK_call, allLeave_cons, leaves_d, allLeave_nil, Bool.and_self, eCall_f, hc1, callC_some, spentAll_cons, spentAll_nil, Nat.min_self, rd_mv, takeV_d, spent_mv, exL_cond, condC_b, Bool.false_eq_true, ↓reduceIte, hc2, evalK_bin, isC_t, isC_c, Bool.or_true, bin_eql, e34, decide_true, hn, put_tup, evalK_extract, extV_0, copy_d, extV_1, evalK_store, readV_box, storeV_lp, cells_agg, List.length_cons, List.length_nil, ones_cons, vone_d, one_i, one_s, ones_nil, storeB_box, setCells_all, storeR_some, put_none, exL_ret, blockC_ret, thenC_ret, finC_ret, resultVs_cons, resultV_cell, resC_box, Nat.reduceLeDiff, boxV_A, List.drop_zero, List.take_succ_cons, List.take_zero, copy1_d, mkAgg_eq, allD_d, allD_nil, consD_some, aggV_some, resultV_t, ownV_d, resultVs_nil, consO_some, leaveC_2, leaves_tup, oks_cons, ok_d, oks_nil, ref_tup, refs_cons, ref_d, refs_nil, Nat.max_self, settle_tup, leave_pure, tok]
          all_goals rfl
        | bad e =>
          simp only [SyR, tok] at hn
          simp only [SyR, f_waferref11_symbol, argEnv_cons, Nat.zero_add, Nat.reduceAdd, argEnv_nil, exL_seq, exL_ops, runOps_n, evalK_allocL, List.map_cons, List.map_nil, opC_ok, put_box, killLp_cons, killV_d, killLp_nil, evalK_mov, rd_c, spent_c, put_d, runOps_nil, thenC_nrm, rd_t, reduceCtorEq, get_ne, get_eq, readV_d, spent_t, Nat.reduceEqDiff, evalK_index, hix, okS_some, exL_block, evalK_call, allLeave_cons, leaves_d, allLeave_nil, Bool.and_self, eCall_f, hc1, callC_some, spentAll_cons, spentAll_nil, Nat.min_self, rd_mv, takeV_d, spent_mv, exL_cond, condC_b, Bool.false_eq_true, ↓reduceIte, hc2, evalK_bin, isC_t, isC_c, Bool.or_true, bin_eql, e34, decide_true, hn, put_tup, evalK_extract, extV_0, copy_d, extV_1, evalK_store, readV_box, storeV_lp, cells_agg, List.length_cons, List.length_nil, ones_cons, vone_d, one_i, one_s, ones_nil, storeB_box, setCells_all, storeR_some, put_none, exL_ret, blockC_ret, thenC_ret, finC_ret, resultVs_cons, resultV_cell, resC_box, Nat.reduceLeDiff, boxV_A, List.drop_zero, List.take_succ_cons, List.take_zero, copy1_d, mkAgg_eq, allD_d, allD_nil, consD_some, aggV_some, resultV_t, ownV_d, resultVs_nil, consO_some, leaveC_2, leaves_tup, oks_cons, ok_d, oks_nil, ref_tup, refs_cons, ref_d, refs_nil, Nat.max_self, settle_tup, leave_pure, tok]
          all_goals rfl
      · have e34 : ((c : Int) = 34) = False := by rw [eq_iff_iff]; simp; omega
        rw [if_neg h34]
        have hw1 : wr .i64 ((a : Int) + 1) = ((a + 1 : Nat) : Int) := by rw [wr_i64 (by omega) (by omega)]; omega
        have hw2 : wr .i64 ((a : Int) + 2) = ((a + 2 : Nat) : Int) := by rw [wr_i64 (by omega) (by omega)]; omega
        have hmid1 := sl_mid (l := s) (a := a) (b := a + 1) (by omega) (by omega)
        have hmm1 : (s.take (a + 1)).drop a = [c] := by
          rw [List.drop_take, hL]; simp
        rw [hmm1] at hmid1
        have hsg := rhas_call (s := SG) (c := c) (by decide) (H := H)
        have hmem : (ixN c SG < 0) = (c ∉ SG) := ixN_mem SG
        have fin : ∀ (w : List Nat), (((((a + 1 : Nat) : Int) < (s.length : Int)) = True ∧ (w = [60, 61]) = False ∧ (w = [62, 61]) = False ∧ (w = [58, 61]) = False ∧ (w = [46, 46]) = False ∧ sliceT (.d (.s s)) (some (a : Int)) (some ((a + 2 : Nat) : Int)) = some (.d (.s w))) ∨ (((a + 1 : Nat) : Int) < (s.length : Int)) = False) →
            SyR H a (if ixN c SG < 0 then .bad 30 else .ok 5 [c] 0 (a + 1)) (finC H false [.cell 4 ⟨5, true⟩, .t 5] (exL pg f_waferref11_symbol.body ⟨argEnv 0 [.d (.s s), .d (.i .i64 (a : Nat))], H, H.length⟩)) := by
          intro w hw
          by_cases hm : c ∈ SG
          · rw [decide_eq_true hm] at hsg
            simp only [SG] at hsg
            rw [if_neg (by rw [hmem]; simpa using hm)]
            rcases hw with ⟨h1, w1, w2, w3, w4, hs2⟩ | h1
            · simp only [SyR, f_waferref11_symbol, f_waferref11_symbol_R2, argEnv_cons, Nat.zero_add, Nat.reduceAdd, argEnv_nil, exL_seq, exL_ops, runOps_n, evalK_allocL, List.map_cons, List.map_nil, opC_ok, put_box, killLp_cons, killV_d, killLp_nil, evalK_mov, rd_c, spent_c, put_d, runOps_nil, thenC_nrm, rd_t, reduceCtorEq, get_ne, get_eq, readV_d, spent_t, Nat.reduceEqDiff, evalK_index, hix, okS_some, exL_block, evalK_call, allLeave_cons, leaves_d, allLeave_nil, Bool.and_self, eCall_f, hc1, callC_some, spentAll_cons, spentAll_nil, Nat.min_self, rd_mv, takeV_d, spent_mv, exL_cond, condC_b, Bool.false_eq_true, ↓reduceIte, hc2, evalK_bin, isC_t, isC_c, Bool.or_true, bin_eql, e34, decide_false, exL_skip, blockC_nrm, restrict_cons, keepV_d, keepV_box, restrict_nil, bin_add, hw1, evalK_lenS, lenS_s, Bool.or_self, bin_lss, h1, decide_true, hw2, evalK_sliceS, optInt_some, oInt_i, cut2_some, hs2, bin_seql, w1, w2, w3, w4, hsg, hmid1, evalK_build, one_i, cells_d1, vone_d, List.length_cons, List.length_nil, Nat.reduceLT, fillC_1, List.set_cons_zero, List.set_cons_succ, one_s, fillC_nil, aggO_some, mkAgg_eq, allD_d, allD_nil, consD_some, aggV_some, evalK_store, readV_box, storeV_lp, cells_agg, ones_cons, ones_nil, storeB_box, setCells_all, storeR_some, put_none, exL_ret, thenC_ret, finC_ret, resultVs_cons, resultV_cell, resC_box, Nat.reduceLeDiff, boxV_A, List.drop_zero, List.take_succ_cons, List.take_zero, copy1_d, resultV_t, ownV_d, resultVs_nil, consO_some, leaveC_2, leaves_tup, oks_cons, ok_d, oks_nil, ref_tup, refs_cons, ref_d, refs_nil, Nat.max_self, settle_tup, leave_pure, tok]
              all_goals rfl
            · simp only [SyR, f_waferref11_symbol, f_waferref11_symbol_R2, argEnv_cons, Nat.zero_add, Nat.reduceAdd, argEnv_nil, exL_seq, exL_ops, runOps_n, evalK_allocL, List.map_cons, List.map_nil, opC_ok, put_box, killLp_cons, killV_d, killLp_nil, evalK_mov, rd_c, spent_c, put_d, runOps_nil, thenC_nrm, rd_t, reduceCtorEq, get_ne, get_eq, readV_d, spent_t, Nat.reduceEqDiff, evalK_index, hix, okS_some, exL_block, evalK_call, allLeave_cons, leaves_d, allLeave_nil, Bool.and_self, eCall_f, hc1, callC_some, spentAll_cons, spentAll_nil, Nat.min_self, rd_mv, takeV_d, spent_mv, exL_cond, condC_b, Bool.false_eq_true, ↓reduceIte, hc2, evalK_bin, isC_t, isC_c, Bool.or_true, bin_eql, e34, decide_false, exL_skip, blockC_nrm, restrict_cons, keepV_d, keepV_box, restrict_nil, bin_add, hw1, evalK_lenS, lenS_s, Bool.or_self, bin_lss, h1, hsg, evalK_sliceS, optInt_some, oInt_i, cut2_some, hmid1, evalK_build, one_i, cells_d1, vone_d, List.length_cons, List.length_nil, Nat.reduceLT, fillC_1, List.set_cons_zero, List.set_cons_succ, one_s, fillC_nil, aggO_some, mkAgg_eq, allD_d, allD_nil, consD_some, aggV_some, evalK_store, readV_box, storeV_lp, cells_agg, ones_cons, ones_nil, storeB_box, setCells_all, storeR_some, put_none, exL_ret, thenC_ret, finC_ret, resultVs_cons, resultV_cell, resC_box, Nat.reduceLeDiff, boxV_A, List.drop_zero, List.take_succ_cons, List.take_zero, copy1_d, resultV_t, ownV_d, resultVs_nil, consO_some, leaveC_2, leaves_tup, oks_cons, ok_d, oks_nil, ref_tup, refs_cons, ref_d, refs_nil, Nat.max_self, settle_tup, leave_pure, tok]
              all_goals rfl
          · rw [decide_eq_false hm] at hsg
            simp only [SG] at hsg
            rw [if_pos (by rw [hmem]; exact hm)]
            rcases hw with ⟨h1, w1, w2, w3, w4, hs2⟩ | h1
            · simp only [SyR, f_waferref11_symbol, f_waferref11_symbol_R2, argEnv_cons, Nat.zero_add, Nat.reduceAdd, argEnv_nil, exL_seq, exL_ops, runOps_n, evalK_allocL, List.map_cons, List.map_nil, opC_ok, put_box, killLp_cons, killV_d, killLp_nil, evalK_mov, rd_c, spent_c, put_d, runOps_nil, thenC_nrm, rd_t, reduceCtorEq, get_ne, get_eq, readV_d, spent_t, Nat.reduceEqDiff, evalK_index, hix, okS_some, exL_block, evalK_call, allLeave_cons, leaves_d, allLeave_nil, Bool.and_self, eCall_f, hc1, callC_some, spentAll_cons, spentAll_nil, Nat.min_self, rd_mv, takeV_d, spent_mv, exL_cond, condC_b, Bool.false_eq_true, ↓reduceIte, hc2, evalK_bin, isC_t, isC_c, Bool.or_true, bin_eql, e34, decide_false, exL_skip, blockC_nrm, restrict_cons, keepV_d, keepV_box, restrict_nil, bin_add, hw1, evalK_lenS, lenS_s, Bool.or_self, bin_lss, h1, decide_true, hw2, evalK_sliceS, optInt_some, oInt_i, cut2_some, hs2, bin_seql, w1, w2, w3, w4, hsg, evalK_build, fillC_nil, aggO_some, mkAgg_eq, allD_d, allD_nil, consD_some, aggV_some, evalK_store, readV_box, storeV_lp, cells_agg, List.length_cons, List.length_nil, ones_cons, vone_d, one_i, one_s, ones_nil, storeB_box, setCells_all, storeR_some, put_none, exL_ret, finC_ret, resultVs_cons, resultV_cell, resC_box, Nat.reduceLeDiff, boxV_A, List.drop_zero, List.take_succ_cons, List.take_zero, copy1_d, resultV_t, ownV_d, resultVs_nil, consO_some, leaveC_2, leaves_tup, oks_cons, ok_d, oks_nil, ref_tup, refs_cons, ref_d, refs_nil, Nat.max_self, settle_tup, leave_pure, tok]
              all_goals rfl
            · simp only [SyR, f_waferref11_symbol, f_waferref11_symbol_R2, argEnv_cons, Nat.zero_add, Nat.reduceAdd, argEnv_nil, exL_seq, exL_ops, runOps_n, evalK_allocL, List.map_cons, List.map_nil, opC_ok, put_box, killLp_cons, killV_d, killLp_nil, evalK_mov, rd_c, spent_c, put_d, runOps_nil, thenC_nrm, rd_t, reduceCtorEq, get_ne, get_eq, readV_d, spent_t, Nat.reduceEqDiff, evalK_index, hix, okS_some, exL_block, evalK_call, allLeave_cons, leaves_d, allLeave_nil, Bool.and_self, eCall_f, hc1, callC_some, spentAll_cons, spentAll_nil, Nat.min_self, rd_mv, takeV_d, spent_mv, exL_cond, condC_b, Bool.false_eq_true, ↓reduceIte, hc2, evalK_bin, isC_t, isC_c, Bool.or_true, bin_eql, e34, decide_false, exL_skip, blockC_nrm, restrict_cons, keepV_d, keepV_box, restrict_nil, bin_add, hw1, evalK_lenS, lenS_s, Bool.or_self, bin_lss, h1, hsg, evalK_build, fillC_nil, aggO_some, mkAgg_eq, allD_d, allD_nil, consD_some, aggV_some, evalK_store, readV_box, storeV_lp, cells_agg, List.length_cons, List.length_nil, ones_cons, vone_d, one_i, one_s, ones_nil, storeB_box, setCells_all, storeR_some, put_none, exL_ret, finC_ret, resultVs_cons, resultV_cell, resC_box, Nat.reduceLeDiff, boxV_A, List.drop_zero, List.take_succ_cons, List.take_zero, copy1_d, resultV_t, ownV_d, resultVs_nil, consO_some, leaveC_2, leaves_tup, oks_cons, ok_d, oks_nil, ref_tup, refs_cons, ref_d, refs_nil, Nat.max_self, settle_tup, leave_pure, tok]
              all_goals rfl
        unfold signS
        by_cases hlt : a + 1 < s.length
        · have h1 : (((a + 1 : Nat) : Int) < (s.length : Int)) = True := by rw [eq_iff_iff]; simp; omega
          have hmid2 := sl_mid (l := s) (a := a) (b := a + 2) (by omega) (by omega)
          have hmm2 : (s.take (a + 2)).drop a = (s.drop a).take 2 := by
            rw [List.drop_take]; congr 1; omega
          rw [hmm2] at hmid2
          have hp : ∀ x y, (pre [x, y] (s.drop a) = true) = ((s.drop a).take 2 = [x, y]) := fun x y => by simp [pre]
          simp only [hp]
          generalize (s.drop a).take 2 = w at *
          by_cases w1 : w = [60, 61]
          · rw [if_pos w1]
            have e1 : (w = [60, 61]) = True := eq_true w1
            simp only [SyR, f_waferref11_symbol, f_waferref11_symbol_R2, argEnv_cons, Nat.zero_add, Nat.reduceAdd, argEnv_nil, exL_seq, exL_ops, runOps_n, evalK_allocL, List.map_cons, List.map_nil, opC_ok, put_box, killLp_cons, killV_d, killLp_nil, evalK_mov, rd_c, spent_c, put_d, runOps_nil, thenC_nrm, rd_t, reduceCtorEq, get_ne, get_eq, readV_d, spent_t, Nat.reduceEqDiff, evalK_index, hix, okS_some, exL_block, evalK_call, allLeave_cons, leaves_d, allLeave_nil, Bool.and_self, eCall_f, hc1, callC_some, spentAll_cons, spentAll_nil, Nat.min_self, rd_mv, takeV_d, spent_mv, exL_cond, condC_b, Bool.false_eq_true, ↓reduceIte, hc2, evalK_bin, isC_t, isC_c, Bool.or_true, bin_eql, e34, decide_false, exL_skip, blockC_nrm, restrict_cons, keepV_d, keepV_box, restrict_nil, bin_add, hw1, evalK_lenS, lenS_s, Bool.or_self, bin_lss, h1, decide_true, hw2, evalK_sliceS, optInt_some, oInt_i, cut2_some, hmid2, bin_seql, e1, evalK_build, one_i, cells_d1, vone_d, List.length_cons, List.length_nil, Nat.reduceLT, fillC_1, List.set_cons_zero, List.set_cons_succ, one_s, fillC_nil, aggO_some, mkAgg_eq, allD_d, allD_nil, consD_some, aggV_some, evalK_store, readV_box, storeV_lp, cells_agg, ones_cons, ones_nil, storeB_box, setCells_all, storeR_some, put_none, exL_ret, blockC_ret, thenC_ret, finC_ret, resultVs_cons, resultV_cell, resC_box, Nat.reduceLeDiff, boxV_A, List.drop_zero, List.take_succ_cons, List.take_zero, copy1_d, resultV_t, ownV_d, resultVs_nil, consO_some, leaveC_2, leaves_tup, oks_cons, ok_d, oks_nil, ref_tup, refs_cons, ref_d, refs_nil, Nat.max_self, settle_tup, leave_pure, tok]
            all_goals rw [w1]
          · rw [if_neg w1]
            have e1 : (w = [60, 61]) = False := eq_false w1
            by_cases w2 : w = [62, 61]
            · rw [if_pos w2]
              have e2 : (w = [62, 61]) = True := eq_true w2
              simp only [SyR, f_waferref11_symbol, f_waferref11_symbol_R2, argEnv_cons, Nat.zero_add, Nat.reduceAdd, argEnv_nil, exL_seq, exL_ops, runOps_n, evalK_allocL, List.map_cons, List.map_nil, opC_ok, put_box, killLp_cons, killV_d, killLp_nil, evalK_mov, rd_c, spent_c, put_d, runOps_nil, thenC_nrm, rd_t, reduceCtorEq, get_ne, get_eq, readV_d, spent_t, Nat.reduceEqDiff, evalK_index, hix, okS_some, exL_block, evalK_call, allLeave_cons, leaves_d, allLeave_nil, Bool.and_self, eCall_f, hc1, callC_some, spentAll_cons, spentAll_nil, Nat.min_self, rd_mv, takeV_d, spent_mv, exL_cond, condC_b, Bool.false_eq_true, ↓reduceIte, hc2, evalK_bin, isC_t, isC_c, Bool.or_true, bin_eql, e34, decide_false, exL_skip, blockC_nrm, restrict_cons, keepV_d, keepV_box, restrict_nil, bin_add, hw1, evalK_lenS, lenS_s, Bool.or_self, bin_lss, h1, decide_true, hw2, evalK_sliceS, optInt_some, oInt_i, cut2_some, hmid2, bin_seql, e1, e2, evalK_build, one_i, cells_d1, vone_d, List.length_cons, List.length_nil, Nat.reduceLT, fillC_1, List.set_cons_zero, List.set_cons_succ, one_s, fillC_nil, aggO_some, mkAgg_eq, allD_d, allD_nil, consD_some, aggV_some, evalK_store, readV_box, storeV_lp, cells_agg, ones_cons, ones_nil, storeB_box, setCells_all, storeR_some, put_none, exL_ret, blockC_ret, thenC_ret, finC_ret, resultVs_cons, resultV_cell, resC_box, Nat.reduceLeDiff, boxV_A, List.drop_zero, List.take_succ_cons, List.take_zero, copy1_d, resultV_t, ownV_d, resultVs_nil, consO_some, leaveC_2, leaves_tup, oks_cons, ok_d, oks_nil, ref_tup, refs_cons, ref_d, refs_nil, Nat.max_self, settle_tup, leave_pure, tok]
              all_goals rw [w2]
            · rw [if_neg w2]
              have e2 : (w = [62, 61]) = False := eq_false w2
              by_cases w3 : w = [58, 61]
              · rw [if_pos w3]
                have e3 : (w = [58, 61]) = True := eq_true w3
                simp only [SyR, f_waferref11_symbol, f_waferref11_symbol_R2, argEnv_cons, Nat.zero_add, Nat.reduceAdd, argEnv_nil, exL_seq, exL_ops, runOps_n, evalK_allocL, List.map_cons, List.map_nil, opC_ok, put_box, killLp_cons, killV_d, killLp_nil, evalK_mov, rd_c, spent_c, put_d, runOps_nil, thenC_nrm, rd_t, reduceCtorEq, get_ne, get_eq, readV_d, spent_t, Nat.reduceEqDiff, evalK_index, hix, okS_some, exL_block, evalK_call, allLeave_cons, leaves_d, allLeave_nil, Bool.and_self, eCall_f, hc1, callC_some, spentAll_cons, spentAll_nil, Nat.min_self, rd_mv, takeV_d, spent_mv, exL_cond, condC_b, Bool.false_eq_true, ↓reduceIte, hc2, evalK_bin, isC_t, isC_c, Bool.or_true, bin_eql, e34, decide_false, exL_skip, blockC_nrm, restrict_cons, keepV_d, keepV_box, restrict_nil, bin_add, hw1, evalK_lenS, lenS_s, Bool.or_self, bin_lss, h1, decide_true, hw2, evalK_sliceS, optInt_some, oInt_i, cut2_some, hmid2, bin_seql, e1, e2, e3, evalK_build, one_i, cells_d1, vone_d, List.length_cons, List.length_nil, Nat.reduceLT, fillC_1, List.set_cons_zero, List.set_cons_succ, one_s, fillC_nil, aggO_some, mkAgg_eq, allD_d, allD_nil, consD_some, aggV_some, evalK_store, readV_box, storeV_lp, cells_agg, ones_cons, ones_nil, storeB_box, setCells_all, storeR_some, put_none, exL_ret, blockC_ret, thenC_ret, finC_ret, resultVs_cons, resultV_cell, resC_box, Nat.reduceLeDiff, boxV_A, List.drop_zero, List.take_succ_cons, List.take_zero, copy1_d, resultV_t, ownV_d, resultVs_nil, consO_some, leaveC_2, leaves_tup, oks_cons, ok_d, oks_nil, ref_tup, refs_cons, ref_d, refs_nil, Nat.max_self, settle_tup, leave_pure, tok]
                all_goals rw [w3]
              · rw [if_neg w3]
                have e3 : (w = [58, 61]) = False := eq_false w3
                by_cases w4 : w = [46, 46]
                · rw [if_pos w4]
                  have e4 : (w = [46, 46]) = True := eq_true w4
                  simp only [SyR, f_waferref11_symbol, f_waferref11_symbol_R2, argEnv_cons, Nat.zero_add, Nat.reduceAdd, argEnv_nil, exL_seq, exL_ops, runOps_n, evalK_allocL, List.map_cons, List.map_nil, opC_ok, put_box, killLp_cons, killV_d, killLp_nil, evalK_mov, rd_c, spent_c, put_d, runOps_nil, thenC_nrm, rd_t, reduceCtorEq, get_ne, get_eq, readV_d, spent_t, Nat.reduceEqDiff, evalK_index, hix, okS_some, exL_block, evalK_call, allLeave_cons, leaves_d, allLeave_nil, Bool.and_self, eCall_f, hc1, callC_some, spentAll_cons, spentAll_nil, Nat.min_self, rd_mv, takeV_d, spent_mv, exL_cond, condC_b, Bool.false_eq_true, ↓reduceIte, hc2, evalK_bin, isC_t, isC_c, Bool.or_true, bin_eql, e34, decide_false, exL_skip, blockC_nrm, restrict_cons, keepV_d, keepV_box, restrict_nil, bin_add, hw1, evalK_lenS, lenS_s, Bool.or_self, bin_lss, h1, decide_true, hw2, evalK_sliceS, optInt_some, oInt_i, cut2_some, hmid2, bin_seql, e1, e2, e3, e4, evalK_build, one_i, cells_d1, vone_d, List.length_cons, List.length_nil, Nat.reduceLT, fillC_1, List.set_cons_zero, List.set_cons_succ, one_s, fillC_nil, aggO_some, mkAgg_eq, allD_d, allD_nil, consD_some, aggV_some, evalK_store, readV_box, storeV_lp, cells_agg, ones_cons, ones_nil, storeB_box, setCells_all, storeR_some, put_none, exL_ret, blockC_ret, thenC_ret, finC_ret, resultVs_cons, resultV_cell, resC_box, Nat.reduceLeDiff, boxV_A, List.drop_zero, List.take_succ_cons, List.take_zero, copy1_d, resultV_t, ownV_d, resultVs_nil, consO_some, leaveC_2, leaves_tup, oks_cons, ok_d, oks_nil, ref_tup, refs_cons, ref_d, refs_nil, Nat.max_self, settle_tup, leave_pure, tok]
                  all_goals rw [w4]
                · rw [if_neg w4]
                  exact fin w (.inl ⟨h1, e1, e2, e3, eq_false w4, hmid2⟩)
        · have h1 : (((a + 1 : Nat) : Int) < (s.length : Int)) = False := by rw [eq_iff_iff]; simp; omega
          have hnil : s.drop (a + 1) = [] := List.drop_eq_nil_of_le (by omega)
          rw [hL, hnil]
          simp only [pre21, Bool.false_eq_true, if_false]
          exact fin [] (.inr h1)
end W

set_option linter.unusedSimpArgs false
set_option linter.unusedVariables false
namespace W
open Go (IntKind BinOp UnOp)
set_option maxRecDepth 20000
theorem blanks_loop {s : List Nat} (hz : s.length ≤ 1000000) {H : List Obj} :
    ∀ (k j : Nat), s.length - j = k → j ≤ s.length → blockC 2 [0, 1] (f_waferref11_skip_l0 pg (.d (.s s)) (.d (.i .i64 (j : Nat))) H H.length) = some (.nrm, ⟨[(0, .d (.s s)), (1, .d (.i .i64 ((j + run blk (s.drop j) : Nat) : Int)))], H, H.length⟩) := by
  intro k
  induction k with
  | zero =>
    intro j hk hj
    obtain rfl : j = s.length := by omega
    have h1 : ((s.length : Int) < (s.length : Int)) = False := by simp
    rw [f_waferref11_skip_l0_eq]
    have hr : run blk (s.drop s.length) = 0 := by simp [run]
    rw [hr]
    simp only [f_waferref11_skip_B0, keepV_d, exL_seq, exL_ops, runOps_n, evalK_mov, rd_t, reduceCtorEq, get_ne, get_eq, readV_d, spent_t, opC_ok, put_d, evalK_lenS, lenS_s, okS_some, evalK_bin, isC_t, Bool.or_self, Nat.reduceEqDiff, bin_lss, h1, decide_false, runOps_g, wantG_bt, wantC_b, Bool.false_eq_true, ↓reduceIte, put_tup, evalK_pick, readV_tup, rd_c, pickV_f, runOps_nil, thenC_nrm, exL_cond, condC_b, exL_exit, thenC_exit, blockC_exit, restrict_cons, restrict_nil, Nat.add_zero]
    all_goals rfl
  | succ k ih =>
    intro j hk hj
    have h1 : ((j : Int) < (s.length : Int)) = True := by rw [eq_iff_iff]; simp; omega
    have hlt : j < s.length := by omega
    have hdr := drop_cons hlt
    have hix : ixV (.d (.s s)) (.d (.i .i64 (j : Int))) = some (.d (.i .u8 ((s[j] : Nat) : Int))) := ixA (List.getElem?_eq_getElem hlt)
    have hw : wr .i64 ((j : Int) + 1) = ((j + 1 : Nat) : Int) := by rw [wr_i64 (by omega) (by omega)]; omega
    rw [f_waferref11_skip_l0_eq, hdr]
    generalize s[j] = c at hix
    have hc := blank_call (c := c) (H := H)
    have ih' := ih (j + 1) (by omega) (by omega)
    cases q1 : blk c with
    | true =>
      rw [q1] at hc
      have hr : j + run blk (c :: s.drop (j + 1)) = j + 1 + run blk (s.drop (j + 1)) := by simp [run, q1]; omega
      rw [hr]
      simp only [f_waferref11_skip_B0, keepV_d, exL_seq, exL_ops, runOps_n, evalK_mov, rd_t, reduceCtorEq, get_ne, get_eq, readV_d, spent_t, opC_ok, put_d, evalK_lenS, lenS_s, okS_some, evalK_bin, isC_t, Bool.or_self, Nat.reduceEqDiff, bin_lss, h1, decide_true, runOps_g, wantG_bt, wantC_b, ↓reduceIte, evalK_index, hix, evalK_call, List.map_cons, List.map_nil, allLeave_cons, leaves_d, allLeave_nil, Bool.and_self, eCall_f, hc, callC_some, spentAll_cons, spentAll_nil, Nat.min_self, evalK_pick, rd_c, pickV_b, runOps_nil, thenC_nrm, exL_cond, condC_b, exL_skip, exL_block, isC_c, Bool.or_true, bin_add, hw, blockC_nrm, restrict_cons, restrict_nil, f_waferref11_skip_l0_in]
      exact ih'
    | false =>
      rw [q1] at hc
      have hr : run blk (c :: s.drop (j + 1)) = 0 := by simp [run, q1]
      rw [hr]
      simp only [f_waferref11_skip_B0, keepV_d, exL_seq, exL_ops, runOps_n, evalK_mov, rd_t, reduceCtorEq, get_ne, get_eq, readV_d, spent_t, opC_ok, put_d, evalK_lenS, lenS_s, okS_some, evalK_bin, isC_t, Bool.or_self, Nat.reduceEqDiff, bin_lss, h1, decide_true, runOps_g, wantG_bt, wantC_b, ↓reduceIte, evalK_index, hix, evalK_call, List.map_cons, List.map_nil, allLeave_cons, leaves_d, allLeave_nil, Bool.and_self, eCall_f, hc, callC_some, spentAll_cons, spentAll_nil, Nat.min_self, evalK_pick, rd_c, pickV_b, runOps_nil, thenC_nrm, exL_cond, condC_b, Bool.false_eq_true, exL_exit, thenC_exit, blockC_exit, restrict_cons, restrict_nil, Nat.add_zero]
      all_goals rfl
theorem sk0_frm : ∀ (n : Nat) (l : List Nat) (f f' a : Nat), l.length ≤ n → sk 0 f a l = sk 0 f' a l := by
  intro n
  induction n with
  | zero =>
    intro l f f' a h
    obtain rfl : l = [] := List.length_eq_zero_iff.1 (by omega)
    simp [sk]
  | succ n ih =>
    intro l f f' a h
    match l, h with
    | [], _ => simp [sk]
    | [c], _ => simp [sk]
    | c :: d :: l, h =>
      simp only [List.length_cons] at h
      rw [sk, sk]
      simp only [if_true, Nat.lt_irrefl, false_and, if_false, false_or]
      rw [ih (d :: l) f f' (a + 1) (by simp only [List.length_cons]; omega)]
theorem sk_blk1 {c a f : Nat} {l : List Nat} (h : blk c = true) : sk 0 f a (c :: l) = sk 0 f (a + 1) l := by
  match l with
  | [] => simp [sk, h]
  | d :: l =>
    have h40 : c ≠ 40 := by intro e; subst e; exact absurd h (by decide)
    rw [sk]
    simp [h40, h]
theorem sk_blk (f : Nat) : ∀ (l : List Nat) (a : Nat), sk 0 f a l = sk 0 f (a + run blk l) (l.drop (run blk l))
  | [], a => by simp [run]
  | c :: l, a => by
    cases h : blk c with
    | true =>
      rw [sk_blk1 h, sk_blk f l (a + 1)]
      simp only [run, h, cond_true, List.drop_succ_cons]
      congr 1; omega
    | false => simp [run, h]
theorem run_stop (P : Nat → Bool) : ∀ (l : List Nat) (c : Nat) (r : List Nat), l.drop (run P l) = c :: r → P c = false
  | [], c, r, h => by simp [run] at h
  | x :: l, c, r, h => by
    cases hp : P x with
    | true =>
      simp only [run, hp, cond_true, List.drop_succ_cons] at h
      exact run_stop P l c r h
    | false =>
      simp only [run, hp, cond_false, List.drop_zero] at h
      injection h with h1 _
      rw [← h1]; exact hp
theorem sk_no {f a c : Nat} {l : List Nat} (hb : blk c = false) (hn : ∀ d r, l = d :: r → ¬ (c = 40 ∧ d = 42)) : sk 0 f a (c :: l) = (true, a) := by
  match l, hn with
  | [], _ => simp [sk, hb]
  | d :: r, hn =>
    rw [sk, if_neg (hn d r rfl)]
    simp [hb]
theorem com_loop {s : List Nat} (hz : s.length ≤ 1000000) {frm : Nat} {H : List Obj} :
    ∀ (k i deep : Nat), s.length - i ≤ k → i ≤ s.length → 0 < deep → deep ≤ i →
      (sk deep frm i (s.drop i) = (false, frm) ∧ ∃ e, get 4 e = .d (.i .i64 (frm : Nat)) ∧ get 5 e = .d (.b false) ∧ blockC 4 [0, 1] (f_waferref11_skip_l1 pg (.d (.s s)) (.d (.i .i64 (i : Nat))) (.d (.i .i64 (frm : Nat))) (.d (.i .i64 (deep : Nat))) H H.length) = some (.ret, ⟨e, H, H.length⟩)) ∨
      (∃ i', i < i' ∧ i' ≤ s.length ∧ sk deep frm i (s.drop i) = sk 0 frm i' (s.drop i') ∧ blockC 4 [0, 1] (f_waferref11_skip_l1 pg (.d (.s s)) (.d (.i .i64 (i : Nat))) (.d (.i .i64 (frm : Nat))) (.d (.i .i64 (deep : Nat))) H H.length) = some (.nrm, ⟨[(0, .d (.s s)), (1, .d (.i .i64 (i' : Nat)))], H, H.length⟩)) := by
  intro k
  induction k with
  | zero =>
    intro i deep hk hi hd hdi
    obtain rfl : i = s.length := by omega
    have hw1 : wr .i64 ((s.length : Int) + 1) = ((s.length + 1 : Nat) : Int) := by rw [wr_i64 (by omega) (by omega)]; omega
    have h1 : ((s.length : Int) ≤ ((s.length + 1 : Nat) : Int)) = True := by rw [eq_iff_iff]; simp; omega
    left
    refine ⟨by rw [List.drop_length]; simp only [sk]; rw [if_neg (by omega)], ?_⟩
    rw [f_waferref11_skip_l1_eq]
    simp only [f_waferref11_skip_B1, keepV_d, exL_block, exL_seq, exL_ops, runOps_n, evalK_mov, rd_t, reduceCtorEq, get_ne, get_eq, readV_d, spent_t, opC_ok, put_d, evalK_bin, isC_t, isC_c, Bool.or_true, rd_c, bin_add, hw1, okS_some, evalK_lenS, lenS_s, Bool.or_self, Nat.reduceEqDiff, bin_geq, h1, decide_true, runOps_nil, thenC_nrm, exL_cond, condC_b, ↓reduceIte, spent_c, exL_ret, blockC_ret, thenC_ret]
    exact ⟨_, rfl, rfl, rfl⟩
  | succ k ih =>
    intro i deep hk hi hd hdi
    have hw1 : wr .i64 ((i : Int) + 1) = ((i + 1 : Nat) : Int) := by rw [wr_i64 (by omega) (by omega)]; omega
    have hw2 : wr .i64 ((i : Int) + 2) = ((i + 2 : Nat) : Int) := by rw [wr_i64 (by omega) (by omega)]; omega
    by_cases hend : s.length ≤ i + 1
    · have h1 : ((s.length : Int) ≤ ((i + 1 : Nat) : Int)) = True := by rw [eq_iff_iff]; simp; omega
      left
      refine ⟨?_, ?_⟩
      · match hL : s.drop i with
        | [] => simp only [sk]; rw [if_neg (by omega)]
        | [c] => simp only [sk]; rw [if_neg (by omega)]
        | c :: d :: l =>
          have := congrArg List.length hL
          simp only [List.length_drop, List.length_cons] at this
          omega
      · rw [f_waferref11_skip_l1_eq]
        simp only [f_waferref11_skip_B1, keepV_d, exL_block, exL_seq, exL_ops, runOps_n, evalK_mov, rd_t, reduceCtorEq, get_ne, get_eq, readV_d, spent_t, opC_ok, put_d, evalK_bin, isC_t, isC_c, Bool.or_true, rd_c, bin_add, hw1, okS_some, evalK_lenS, lenS_s, Bool.or_self, Nat.reduceEqDiff, bin_geq, h1, decide_true, runOps_nil, thenC_nrm, exL_cond, condC_b, ↓reduceIte, spent_c, exL_ret, blockC_ret, thenC_ret]
        exact ⟨_, rfl, rfl, rfl⟩
    · have h1 : ((s.length : Int) ≤ ((i + 1 : Nat) : Int)) = False := by rw [eq_iff_iff]; simp; omega
      have hlt : i < s.length := by omega
      have hlt1 : i + 1 < s.length := by omega
      have hL : s.drop i = s[i] :: s[i + 1] :: s.drop (i + 2) := by rw [drop_cons hlt, drop_cons hlt1]
      have hL1 : s.drop (i + 1) = s[i + 1] :: s.drop (i + 2) := drop_cons hlt1
      have hix : ixV (.d (.s s)) (.d (.i .i64 (i : Int))) = some (.d (.i .u8 ((s[i] : Nat) : Int))) := ixA (List.getElem?_eq_getElem hlt)
      have hix1 : ixV (.d (.s s)) (.d (.i .i64 ((i + 1 : Nat) : Int))) = some (.d (.i .u8 ((s[i + 1] : Nat) : Int))) := ixA (List.getElem?_eq_getElem hlt1)
      rw [hL]
      generalize s[i] = c at hix hL
      generalize s[i + 1] = d at hix1 hL hL1
      have e1 : ((c : Int) = 40) = (c = 40) := by rw [eq_iff_iff]; omega
      have e2 : ((d : Int) = 42) = (d = 42) := by rw [eq_iff_iff]; omega
      have e3 : ((c : Int) = 42) = (c = 42) := by rw [eq_iff_iff]; omega
      have e4 : ((d : Int) = 41) = (d = 41) := by rw [eq_iff_iff]; omega
      have hdn : ((deep : Int) = 0) = False := by rw [eq_iff_iff]; simp; omega
      have go1 : (¬ (c = 40 ∧ d = 42)) → (¬ (c = 42 ∧ d = 41)) → blockC 4 [0, 1] (f_waferref11_skip_l1 pg (.d (.s s)) (.d (.i .i64 (i : Nat))) (.d (.i .i64 (frm : Nat))) (.d (.i .i64 (deep : Nat))) H H.length) = blockC 4 [0, 1] (f_waferref11_skip_l1 pg (.d (.s s)) (.d (.i .i64 ((i + 1 : Nat) : Int))) (.d (.i .i64 (frm : Nat))) (.d (.i .i64 (deep : Nat))) H H.length) := by
        intro n1 n2
        rw [f_waferref11_skip_l1_eq]
        by_cases q1 : c = 40
        · have q2 : (d = 42) = False := eq_false (fun h => n1 ⟨q1, h⟩)
          have q3 : (c = 42) = False := eq_false (by omega)
          have q1 : (c = 40) = True := eq_true q1
          simp only [f_waferref11_skip_B1, keepV_d, exL_block, exL_seq, exL_ops, runOps_n, evalK_mov, rd_t, reduceCtorEq, get_ne, get_eq, readV_d, spent_t, opC_ok, put_d, evalK_bin, isC_t, isC_c, Bool.or_true, rd_c, bin_add, hw1, okS_some, evalK_lenS, lenS_s, Bool.or_self, Nat.reduceEqDiff, bin_geq, h1, decide_false, runOps_nil, thenC_nrm, exL_cond, condC_b, Bool.false_eq_true, ↓reduceIte, evalK_index, hix, bin_eql, e1, q1, decide_true, runOps_g, wantG_bt, wantC_b, hix1, e2, q2, evalK_pick, pickV_b, e3, q3, put_tup, readV_tup, pickV_f, blockC_nrm, restrict_cons, restrict_nil, hdn, exL_skip, f_waferref11_skip_l1_in]
          all_goals rfl
        · by_cases q3 : c = 42
          · have q4 : (d = 41) = False := eq_false (fun h => n2 ⟨q3, h⟩)
            have q3 : (c = 42) = True := eq_true q3
            simp only [f_waferref11_skip_B1, keepV_d, exL_block, exL_seq, exL_ops, runOps_n, evalK_mov, rd_t, reduceCtorEq, get_ne, get_eq, readV_d, spent_t, opC_ok, put_d, evalK_bin, isC_t, isC_c, Bool.or_true, rd_c, bin_add, hw1, okS_some, evalK_lenS, lenS_s, Bool.or_self, Nat.reduceEqDiff, bin_geq, h1, decide_false, runOps_nil, thenC_nrm, exL_cond, condC_b, Bool.false_eq_true, ↓reduceIte, evalK_index, hix, bin_eql, e1, q1, runOps_g, wantG_bt, wantC_b, put_tup, evalK_pick, readV_tup, pickV_f, e3, q3, decide_true, hix1, e4, q4, pickV_b, blockC_nrm, restrict_cons, restrict_nil, hdn, exL_skip, f_waferref11_skip_l1_in]
            all_goals rfl
          · simp only [f_waferref11_skip_B1, keepV_d, exL_block, exL_seq, exL_ops, runOps_n, evalK_mov, rd_t, reduceCtorEq, get_ne, get_eq, readV_d, spent_t, opC_ok, put_d, evalK_bin, isC_t, isC_c, Bool.or_true, rd_c, bin_add, hw1, okS_some, evalK_lenS, lenS_s, Bool.or_self, Nat.reduceEqDiff, bin_geq, h1, decide_false, runOps_nil, thenC_nrm, exL_cond, condC_b, Bool.false_eq_true, ↓reduceIte, evalK_index, hix, bin_eql, e1, q1, runOps_g, wantG_bt, wantC_b, put_tup, evalK_pick, readV_tup, pickV_f, e3, q3, blockC_nrm, restrict_cons, restrict_nil, hdn, exL_skip, f_waferref11_skip_l1_in]
            all_goals rfl
      by_cases c1 : c = 40 ∧ d = 42
      · have hd1 : wr .i64 ((deep : Int) + 1) = ((deep + 1 : Nat) : Int) := by rw [wr_i64 (by omega) (by omega)]; omega
        have hdn1 : (((deep + 1 : Nat) : Int) = 0) = False := by rw [eq_iff_iff]; simp; omega
        rw [sk, if_pos c1, if_neg (by omega)]
        have go2 : blockC 4 [0, 1] (f_waferref11_skip_l1 pg (.d (.s s)) (.d (.i .i64 (i : Nat))) (.d (.i .i64 (frm : Nat))) (.d (.i .i64 (deep : Nat))) H H.length) = blockC 4 [0, 1] (f_waferref11_skip_l1 pg (.d (.s s)) (.d (.i .i64 ((i + 2 : Nat) : Int))) (.d (.i .i64 (frm : Nat))) (.d (.i .i64 ((deep + 1 : Nat) : Int))) H H.length) := by
          rw [f_waferref11_skip_l1_eq]
          simp only [f_waferref11_skip_B1, keepV_d, exL_block, exL_seq, exL_ops, runOps_n, evalK_mov, rd_t, reduceCtorEq, get_ne, get_eq, readV_d, spent_t, opC_ok, put_d, evalK_bin, isC_t, isC_c, Bool.or_true, rd_c, bin_add, hw1, okS_some, evalK_lenS, lenS_s, Bool.or_self, Nat.reduceEqDiff, bin_geq, h1, decide_false, runOps_nil, thenC_nrm, exL_cond, condC_b, Bool.false_eq_true, ↓reduceIte, evalK_index, hix, c1.1, Int.cast_ofNat_Int, bin_eql, decide_true, runOps_g, wantG_bt, wantC_b, hix1, c1.2, evalK_pick, pickV_b, hd1, hw2, blockC_nrm, restrict_cons, restrict_nil, hdn1, exL_skip, f_waferref11_skip_l1_in]
          all_goals rfl
        rw [go2]
        rcases ih (i + 2) (deep + 1) (by omega) (by omega) (by omega) (by omega) with h | ⟨i', h2, h3, h4, h5⟩
        · exact .inl h
        · exact .inr ⟨i', by omega, h3, h4, h5⟩
      · by_cases c2 : c = 42 ∧ d = 41
        · have hd1 : wr .i64 ((deep : Int) - 1) = ((deep - 1 : Nat) : Int) := by rw [wr_i64 (by omega) (by omega)]; omega
          have c40 : (c = 40) = False := eq_false (by omega)
          rw [sk, if_neg c1, if_pos ⟨hd, c2⟩]
          by_cases hd0 : deep = 1
          · have hdn1 : (((deep - 1 : Nat) : Int) = 0) = True := by rw [eq_iff_iff]; simp; omega
            right
            refine ⟨i + 2, by omega, by omega, by rw [hd0], ?_⟩
            rw [f_waferref11_skip_l1_eq]
            simp only [f_waferref11_skip_B1, keepV_d, exL_block, exL_seq, exL_ops, runOps_n, evalK_mov, rd_t, reduceCtorEq, get_ne, get_eq, readV_d, spent_t, opC_ok, put_d, evalK_bin, isC_t, isC_c, Bool.or_true, rd_c, bin_add, hw1, okS_some, evalK_lenS, lenS_s, Bool.or_self, Nat.reduceEqDiff, bin_geq, h1, decide_false, runOps_nil, thenC_nrm, exL_cond, condC_b, Bool.false_eq_true, ↓reduceIte, evalK_index, hix, c2.1, Int.cast_ofNat_Int, bin_eql, Int.reduceEq, runOps_g, wantG_bt, wantC_b, put_tup, evalK_pick, readV_tup, pickV_f, decide_true, hix1, c2.2, pickV_b, bin_sub, hd1, hw2, blockC_nrm, restrict_cons, restrict_nil, hdn1, exL_exit, blockC_exit, thenC_exit]
            all_goals rfl
          · have hdn1 : (((deep - 1 : Nat) : Int) = 0) = False := by rw [eq_iff_iff]; simp; omega
            have go2 : blockC 4 [0, 1] (f_waferref11_skip_l1 pg (.d (.s s)) (.d (.i .i64 (i : Nat))) (.d (.i .i64 (frm : Nat))) (.d (.i .i64 (deep : Nat))) H H.length) = blockC 4 [0, 1] (f_waferref11_skip_l1 pg (.d (.s s)) (.d (.i .i64 ((i + 2 : Nat) : Int))) (.d (.i .i64 (frm : Nat))) (.d (.i .i64 ((deep - 1 : Nat) : Int))) H H.length) := by
              rw [f_waferref11_skip_l1_eq]
              simp only [f_waferref11_skip_B1, keepV_d, exL_block, exL_seq, exL_ops, runOps_n, evalK_mov, rd_t, reduceCtorEq, get_ne, get_eq, readV_d, spent_t, opC_ok, put_d, evalK_bin, isC_t, isC_c, Bool.or_true, rd_c, bin_add, hw1, okS_some, evalK_lenS, lenS_s, Bool.or_self, Nat.reduceEqDiff, bin_geq, h1, decide_false, runOps_nil, thenC_nrm, exL_cond, condC_b, Bool.false_eq_true, ↓reduceIte, evalK_index, hix, c2.1, Int.cast_ofNat_Int, bin_eql, Int.reduceEq, runOps_g, wantG_bt, wantC_b, put_tup, evalK_pick, readV_tup, pickV_f, decide_true, hix1, c2.2, pickV_b, bin_sub, hd1, hw2, blockC_nrm, restrict_cons, restrict_nil, hdn1, exL_skip, f_waferref11_skip_l1_in]
              all_goals rfl
            rw [go2]
            rcases ih (i + 2) (deep - 1) (by omega) (by omega) (by omega) (by omega) with h | ⟨i', h2, h3, h4, h5⟩
            · exact .inl h
            · exact .inr ⟨i', by omega, h3, h4, h5⟩
        · rw [sk, if_neg c1, if_neg (fun h => c2 h.2), if_pos (.inl hd), go1 c1 c2, ← hL1]
          rcases ih (i + 1) deep (by omega) (by omega) hd (by omega) with h | ⟨i', h2, h3, h4, h5⟩
          · exact .inl h
          · exact .inr ⟨i', by omega, h3, h4, h5⟩
def RkR (H : List Obj) (r : Bool × Nat) (X : Option (Ex × St)) : Prop := ∃ e, get 4 e = .d (.i .i64 (r.2 : Nat)) ∧ get 5 e = .d (.b r.1) ∧ X = some (.ret, ⟨e, H, H.length⟩)
theorem rskip_loop {s : List Nat} (hz : s.length ≤ 1000000) {H : List Obj} :
    ∀ (k i : Nat), s.length - i ≤ k → i ≤ s.length → RkR H (sk 0 0 i (s.drop i)) (blockC 0 [4, 5] (f_waferref11_skip_l3 pg (.d (.s s)) (.d (.i .i64 (i : Nat))) H H.length)) := by
  intro k
  induction k with
  | zero =>
    intro i hk hi
    obtain rfl : i = s.length := by omega
    have hl := blanks_loop hz (H := H) (s.length - s.length) s.length rfl (by omega)
    have hr : run blk (s.drop s.length) = 0 := by simp [run]
    rw [hr] at hl
    have hw1 : wr .i64 ((s.length : Int) + 1) = ((s.length + 1 : Nat) : Int) := by rw [wr_i64 (by omega) (by omega)]; omega
    have h1 : ((s.length : Int) ≤ ((s.length + 1 : Nat) : Int)) = True := by rw [eq_iff_iff]; simp; omega
    rw [f_waferref11_skip_l3_eq, List.drop_length]
    simp only [sk, ↓reduceIte, f_waferref11_skip_B3, f_waferref11_skip_R2, keepV_d, exL_block, exL_seq, f_waferref11_skip_l0_in, get_eq, reduceCtorEq, get_ne, hl, Nat.add_zero, thenC_nrm, exL_ops, runOps_n, evalK_mov, rd_t, readV_d, spent_t, opC_ok, put_d, evalK_bin, isC_t, isC_c, Bool.or_true, rd_c, bin_add, hw1, okS_some, evalK_lenS, lenS_s, Bool.or_self, Nat.reduceEqDiff, bin_geq, h1, decide_true, runOps_g, wantG_bf, Bool.not_true, wantC_b, Bool.false_eq_true, put_tup, evalK_pick, readV_tup, pickV_t, runOps_nil, exL_cond, condC_b, spent_c, exL_ret, thenC_ret, blockC_ret]
    exact ⟨_, rfl, rfl, rfl⟩
  | succ k ih =>
    intro i hk hi
    have hl := blanks_loop hz (H := H) (s.length - i) i rfl (by omega)
    have hle := run_le blk (s.drop i)
    simp only [List.length_drop] at hle
    have hst := run_stop blk (s.drop i)
    rw [f_waferref11_skip_l3_eq, sk_blk]
    rw [List.drop_drop] at *
    generalize run blk (s.drop i) = n at *
    have hw1 : wr .i64 (((i + n : Nat) : Int) + 1) = ((i + n + 1 : Nat) : Int) := by rw [wr_i64 (by omega) (by omega)]; omega
    have hw2 : wr .i64 (((i + n : Nat) : Int) + 2) = ((i + n + 2 : Nat) : Int) := by rw [wr_i64 (by omega) (by omega)]; omega
    generalize hj : i + n = j at *
    by_cases hend : s.length ≤ j + 1
    · have h1 : ((s.length : Int) ≤ ((j + 1 : Nat) : Int)) = True := by rw [eq_iff_iff]; simp; omega
      have hs : sk 0 0 j (s.drop j) = (true, j) := by
        match hL : s.drop j with
        | [] => simp [sk]
        | [c] => exact sk_no (hst c [] hL) (fun d r h => by cases h)
        | c :: d :: l =>
          have := congrArg List.length hL
          simp only [List.length_drop, List.length_cons] at this
          omega
      rw [hs]
      simp only [f_waferref11_skip_B3, f_waferref11_skip_R2, keepV_d, exL_block, exL_seq, f_waferref11_skip_l0_in, get_eq, reduceCtorEq, get_ne, hl, thenC_nrm, exL_ops, runOps_n, evalK_mov, rd_t, readV_d, spent_t, opC_ok, put_d, evalK_bin, isC_t, isC_c, Bool.or_true, rd_c, bin_add, hw1, okS_some, evalK_lenS, lenS_s, Bool.or_self, Nat.reduceEqDiff, bin_geq, h1, decide_true, runOps_g, wantG_bf, Bool.not_true, wantC_b, Bool.false_eq_true, ↓reduceIte, put_tup, evalK_pick, readV_tup, pickV_t, runOps_nil, exL_cond, condC_b, spent_c, exL_ret, thenC_ret, blockC_ret]
      exact ⟨_, rfl, rfl, rfl⟩
    · have h1 : ((s.length : Int) ≤ ((j + 1 : Nat) : Int)) = False := by rw [eq_iff_iff]; simp; omega
      have hlt : j < s.length := by omega
      have hlt1 : j + 1 < s.length := by omega
      have hL : s.drop j = s[j] :: s[j + 1] :: s.drop (j + 2) := by rw [drop_cons hlt, drop_cons hlt1]
      have hix : ixV (.d (.s s)) (.d (.i .i64 (j : Int))) = some (.d (.i .u8 ((s[j] : Nat) : Int))) := ixA (List.getElem?_eq_getElem hlt)
      have hix1 : ixV (.d (.s s)) (.d (.i .i64 ((j + 1 : Nat) : Int))) = some (.d (.i .u8 ((s[j + 1] : Nat) : Int))) := ixA (List.getElem?_eq_getElem hlt1)
      rw [hL]
      generalize s[j] = c at hix hL
      generalize s[j + 1] = d at hix1 hL
      have hbc := hst c _ hL
      have e1 : ((c : Int) = 40) = (c = 40) := by rw [eq_iff_iff]; omega
      have e2 : ((d : Int) = 42) = (d = 42) := by rw [eq_iff_iff]; omega
      by_cases q1 : c = 40
      · by_cases q2 : d = 42
        · have hc := com_loop hz (frm := j) (H := H) (s.length - (j + 2)) (j + 2) 1 (Nat.le_refl _) (by omega) (by omega) (by omega)
          have hsk : sk 0 0 j (c :: d :: s.drop (j + 2)) = sk 1 j (j + 2) (s.drop (j + 2)) := by
            rw [sk, if_pos ⟨q1, q2⟩, if_pos rfl]
          rw [hsk]
          have w01 : wr .i64 (0 + 1) = ((1 : Nat) : Int) := rfl
          have w01' : wr .i64 1 = ((1 : Nat) : Int) := rfl
          have q3 : (((1 : Nat) : Int) = 0) = False := by simp
          have step : blockC 4 [0, 1] (f_waferref11_skip_l1 pg (.d (.s s)) (.d (.i .i64 (j : Nat))) (.d (.i .i64 (j : Nat))) (.d (.i .i64 0)) H H.length) = blockC 4 [0, 1] (f_waferref11_skip_l1 pg (.d (.s s)) (.d (.i .i64 ((j + 2 : Nat) : Int))) (.d (.i .i64 (j : Nat))) (.d (.i .i64 ((1 : Nat) : Int))) H H.length) := by
            rw [f_waferref11_skip_l1_eq]
            simp only [f_waferref11_skip_B1, keepV_d, exL_block, exL_seq, exL_ops, runOps_n, evalK_mov, rd_t, reduceCtorEq, get_ne, get_eq, readV_d, spent_t, opC_ok, put_d, evalK_bin, isC_t, isC_c, Bool.or_true, rd_c, bin_add, hw1, okS_some, evalK_lenS, lenS_s, Bool.or_self, Nat.reduceEqDiff, bin_geq, h1, decide_false, runOps_nil, thenC_nrm, exL_cond, condC_b, Bool.false_eq_true, ↓reduceIte, evalK_index, hix, q1, Int.cast_ofNat_Int, bin_eql, decide_true, runOps_g, wantG_bt, wantC_b, hix1, q2, evalK_pick, pickV_b, Int.reduceAdd, w01', hw2, blockC_nrm, restrict_cons, restrict_nil, Int.reduceEq, exL_skip, f_waferref11_skip_l1_in]
            all_goals rfl
          rcases hc with ⟨g1, e, g2, g3, g4⟩ | ⟨i', g1, g2, g3, g4⟩
          · rw [g1]
            rw [g4] at step
            simp only [f_waferref11_skip_B3, f_waferref11_skip_R2, keepV_d, exL_block, exL_seq, f_waferref11_skip_l0_in, get_eq, reduceCtorEq, get_ne, hl, thenC_nrm, exL_ops, runOps_n, evalK_mov, rd_t, readV_d, spent_t, opC_ok, put_d, evalK_bin, isC_t, isC_c, Bool.or_true, rd_c, bin_add, hw1, okS_some, evalK_lenS, lenS_s, Bool.or_self, Nat.reduceEqDiff, bin_geq, h1, decide_false, runOps_g, wantG_bf, Bool.not_false, wantC_b, ↓reduceIte, evalK_index, hix, q1, Int.cast_ofNat_Int, bin_neq, decide_true, Bool.not_true, evalK_pick, pickV_b, Bool.false_eq_true, hix1, q2, runOps_nil, exL_cond, condC_b, exL_skip, spent_c, f_waferref11_skip_l1_in, step, blockC_ret, thenC_ret]
            exact ⟨e, g2, g3, rfl⟩
          · rw [g3, sk0_frm (s.drop i').length _ j 0 i' (Nat.le_refl _)]
            rw [g4] at step
            have ih' := ih i' (by omega) g2
            simp only [f_waferref11_skip_B3, f_waferref11_skip_R2, keepV_d, exL_block, exL_seq, f_waferref11_skip_l0_in, get_eq, reduceCtorEq, get_ne, hl, thenC_nrm, exL_ops, runOps_n, evalK_mov, rd_t, readV_d, spent_t, opC_ok, put_d, evalK_bin, isC_t, isC_c, Bool.or_true, rd_c, bin_add, hw1, okS_some, evalK_lenS, lenS_s, Bool.or_self, Nat.reduceEqDiff, bin_geq, h1, decide_false, runOps_g, wantG_bf, Bool.not_false, wantC_b, ↓reduceIte, evalK_index, hix, q1, Int.cast_ofNat_Int, bin_neq, decide_true, Bool.not_true, evalK_pick, pickV_b, Bool.false_eq_true, hix1, q2, runOps_nil, exL_cond, condC_b, exL_skip, spent_c, f_waferref11_skip_l1_in, step, blockC_nrm, restrict_cons, restrict_nil, f_waferref11_skip_l3_in]
            exact ih'
        · rw [sk_no hbc (fun d' r h => by injection h with h' _; subst h'; exact fun h => q2 h.2)]
          simp only [f_waferref11_skip_B3, f_waferref11_skip_R2, keepV_d, exL_block, exL_seq, f_waferref11_skip_l0_in, get_eq, reduceCtorEq, get_ne, hl, thenC_nrm, exL_ops, runOps_n, evalK_mov, rd_t, readV_d, spent_t, opC_ok, put_d, evalK_bin, isC_t, isC_c, Bool.or_true, rd_c, bin_add, hw1, okS_some, evalK_lenS, lenS_s, Bool.or_self, Nat.reduceEqDiff, bin_geq, h1, decide_false, runOps_g, wantG_bf, Bool.not_false, wantC_b, ↓reduceIte, evalK_index, hix, q1, Int.cast_ofNat_Int, bin_neq, decide_true, Bool.not_true, evalK_pick, pickV_b, Bool.false_eq_true, hix1, e2, q2, runOps_nil, exL_cond, condC_b, spent_c, exL_ret, thenC_ret, blockC_ret]
          exact ⟨_, rfl, rfl, rfl⟩
      · rw [sk_no hbc (fun d' r h => fun h => q1 h.1)]
        simp only [f_waferref11_skip_B3, f_waferref11_skip_R2, keepV_d, exL_block, exL_seq, f_waferref11_skip_l0_in, get_eq, reduceCtorEq, get_ne, hl, thenC_nrm, exL_ops, runOps_n, evalK_mov, rd_t, readV_d, spent_t, opC_ok, put_d, evalK_bin, isC_t, isC_c, Bool.or_true, rd_c, bin_add, hw1, okS_some, evalK_lenS, lenS_s, Bool.or_self, Nat.reduceEqDiff, bin_geq, h1, decide_false, runOps_g, wantG_bf, Bool.not_false, wantC_b, ↓reduceIte, evalK_index, hix, bin_neq, e1, q1, evalK_pick, pickV_b, Bool.false_eq_true, Bool.not_true, put_tup, readV_tup, pickV_t, runOps_nil, exL_cond, condC_b, spent_c, exL_ret, thenC_ret, blockC_ret]
        exact ⟨_, rfl, rfl, rfl⟩
theorem rskip_call {s : List Nat} (hz : s.length ≤ 1000000) {i : Nat} {H : List Obj} (hi : i ≤ s.length) : callL pg 25 [.d (.s s), .d (.i .i64 (i : Nat))] H = some ⟨false, true, .tup [.d (.i .i64 ((sk 0 i i (s.drop i)).2 : Nat)), .d (.b (sk 0 i i (s.drop i)).1)], H, H.length⟩ := by
  obtain ⟨e, g1, g2, g3⟩ := rskip_loop hz (H := H) (s.length - i) i (Nat.le_refl _) hi
  rw [sk0_frm (s.drop i).length _ i 0 i (Nat.le_refl _)]
  rw [callL_fn (fn := f_waferref11_skip) rfl rfl]
  simp only [f_waferref11_skip, argEnv_cons, Nat.zero_add, Nat.reduceAdd, argEnv_nil, exL_seq, exL_ops, runOps_n, evalK_mov, rd_c, spent_c, opC_ok, put_d, runOps_nil, thenC_nrm, exL_block, f_waferref11_skip_l3_in, reduceCtorEq, get_ne, get_eq, keepV_d, Nat.reduceEqDiff]
  rw [g3]
  simp only [finC_ret, resultVs_cons, resultV_t, g1, ownV_d, g2, resultVs_nil, consO_some, leaveC_2, leaves_tup, oks_cons, ok_d, oks_nil, Bool.and_self, ref_tup, refs_cons, ref_d, refs_nil, Nat.max_self, settle_tup, leave_pure]
  all_goals rfl
end W

set_option linter.unusedSimpArgs false
set_option linter.unusedVariables false
namespace W
open Go (IntKind BinOp UnOp)
set_option maxRecDepth 20000
theorem sym_bad {s : List Nat} {j : Nat} (hj : j < s.length) {e : Int} (h : symS s j = .bad e) : e = 30 ∨ e = 34 := by
  unfold symS at h
  rw [drop_cons hj] at h
  simp only at h
  split at h
  · unfold wordS at h
    split at h
    · cases h; exact .inr rfl
    · split at h <;> cases h
  · split at h
    · unfold numS at h
      split at h
      · unfold numR at h; split at h <;> cases h; exact .inl rfl
      · split at h
        · unfold numR at h; split at h <;> cases h; exact .inl rfl
        · unfold numR at h; split at h <;> cases h; exact .inl rfl
    · split at h
      · unfold textS at h
        split at h
        · split at h <;> cases h; exact .inr rfl
        · cases h; exact .inl rfl
      · unfold signS at h
        split at h
        · cases h
        · split at h
          · cases h
          · split at h
            · cases h
            · split at h
              · cases h
              · split at h <;> cases h; exact .inl rfl
def RcR (H : List Obj) (r : Sum (Nat × Int) (List Tk)) (X : Option (Ex × St)) : Prop :=
  match r with
  | .inr L' => ∃ e, get 2 e = slV eTk L' ∧ get 3 e = .d (.i .i64 0) ∧ get 4 e = .d (.i .i64 0) ∧ X = some (.ret, ⟨e, H, H.length⟩)
  | .inl (p, x) => x ≠ 0 ∧ ∃ e, get 2 e = .d .nil ∧ get 3 e = .d (.i .i64 (p : Nat)) ∧ get 4 e = .d (.i .i64 x) ∧ X = some (.ret, ⟨e, H, H.length⟩)
theorem rscan_loop {s : List Nat} (hz : s.length ≤ 1000000) {H : List Obj} :
    ∀ (f a : Nat) (L : List Tk), s.length - a < f → a ≤ s.length → L.length ≤ a →
      RcR H (scanF s f a L) (blockC 0 [2, 3, 4] (f_waferref11_Scan_l0 pg (.d (.s s)) (slV eTk L) (.d (.i .i64 (a : Nat))) H H.length)) := by
  intro f
  induction f with
  | zero => intro a L h; omega
  | succ f ih =>
    intro a L hf ha hLa
    have hk := rskip_call hz (i := a) (H := H) ha
    have hjl := fun j => sk_le (s.drop a).length 0 a a (s.drop a) j (Nat.le_refl _)
    rw [f_waferref11_Scan_l0_eq, scanF]
    have hnx : nextS s a = match sk 0 a a (s.drop a) with
      | (false, p) => .bad p 30
      | (true, j) => if j = s.length then .ok 0 j j [] 0 else nxOf j (symS s j) := rfl
    have hpr := fun k p e t n => next_prog ha (k := k) (p := p) (e := e) (t := t) (n := n)
    generalize sk 0 a a (s.drop a) = r at hk hjl hnx
    obtain ⟨b, j⟩ := r
    cases b with
    | false =>
      simp only at hnx
      rw [hnx]
      simp only [RcR, ne_eq, Int.reduceEq, not_false_eq_true, f_waferref11_Scan_B0, keepV_d, keepV_slV, exL_block, exL_seq, exL_ops, runOps_n, evalK_mov, rd_t, get_eq, readV_d, spent_t, opC_ok, put_d, rd_mv, Nat.reduceEqDiff, get_ne, reduceCtorEq, takeV_d, spent_mv, evalK_call, List.map_cons, List.map_nil, allLeave_cons, leaves_d, allLeave_nil, Bool.and_self, eCall_f, hk, callC_some, spentAll_cons, spentAll_nil, Nat.min_self, put_tup, readV_tup, evalK_extract, extV_0, copy_d, okS_some, extV_1, runOps_nil, thenC_nrm, evalK_un, un_not, Bool.not_false, Option.map_some, exL_cond, condC_b, ↓reduceIte, rd_c, spent_c, exL_ret, thenC_ret, blockC_ret]
      exact ⟨by decide, _, rfl, rfl, rfl, rfl⟩
    | true =>
      have hjr := hjl j rfl
      simp only [List.length_drop] at hjr
      simp only at hnx
      by_cases hj : j = s.length
      · have e1 : ((s.length : Int) ≤ (j : Int)) = True := by rw [eq_iff_iff]; simp; omega
        rw [if_pos hj] at hnx
        rw [hnx]
        have happ : appendV 5 48 (slV eTk L) (.d (.sl [.agg [.i .i64 0, .i .i64 (s.length : Nat), .i .i64 (s.length : Nat), .s [], .i .i32 0]])) = some (slV eTk (L ++ [⟨0, j, j, [], 0⟩])) := by
          rw [hj]
          exact app_slV1 (x := (⟨0, s.length, s.length, [], 0⟩ : Tk)) (fun _ => rfl) (roomy_of (by omega) (by omega))
        simp only [RcR, ↓reduceIte, f_waferref11_Scan_B0, keepV_d, keepV_slV, exL_block, exL_seq, exL_ops, runOps_n, evalK_mov, rd_t, get_eq, readV_d, spent_t, opC_ok, put_d, rd_mv, Nat.reduceEqDiff, get_ne, reduceCtorEq, takeV_d, spent_mv, evalK_call, List.map_cons, List.map_nil, allLeave_cons, leaves_d, allLeave_nil, Bool.and_self, eCall_f, hk, callC_some, spentAll_cons, spentAll_nil, Nat.min_self, put_tup, readV_tup, evalK_extract, extV_0, copy_d, okS_some, extV_1, runOps_nil, thenC_nrm, evalK_un, un_not, Bool.not_true, Option.map_some, exL_cond, condC_b, Bool.false_eq_true, exL_skip, evalK_lenS, lenS_s, evalK_bin, isC_t, Bool.or_self, bin_geq, e1, decide_true, takeV_slV, put_slV, evalK_build, one_i, cells_d1, vone_d, List.length_cons, List.length_nil, Nat.zero_add, Nat.reduceAdd, Nat.reduceLT, fillC_1, List.set_cons_succ, List.set_cons_zero, fillC_nil, aggO_some, mkAgg_eq, allD_d, allD_nil, consD_some, aggV_some, evalK_buildSlice, dcells_agg, List.reduceReplicate, fillD_cons, fillD_nil, wfs_cons, wf_agg, dones_cons, one_s, dones_nil, wfs_nil, slO_some, put_osl, evalK_append, readV_osl, happ, appO_some, rd_c, spent_c, exL_ret, thenC_ret, blockC_ret]
        exact ⟨_, rfl, rfl, rfl, rfl⟩
      · have e1 : ((s.length : Int) ≤ (j : Int)) = False := by rw [eq_iff_iff]; simp; omega
        rw [if_neg hj] at hnx
        have hjlt : j < s.length := by omega
        have hs := symbol_call hz (a := j) (H := H) hjlt
        have hsp := fun k t n a' => sym_prog (s := s) (j := j) (k := k) (t := t) (n := n) (a' := a')
        have hsb := fun e => sym_bad (s := s) (j := j) hjlt (e := e)
        rw [hnx]
        generalize symS s j = r at hs hsp hsb
        cases r with
        | bad x =>
          have hx := hsb x rfl
          have x0 : (x = 0) = False := by rw [eq_iff_iff]; simp; omega
          simp only [SyR, tok] at hs
          simp only [RcR, nxOf, ne_eq, x0, not_false_eq_true, f_waferref11_Scan_B0, keepV_d, keepV_slV, exL_block, exL_seq, exL_ops, runOps_n, evalK_mov, rd_t, get_eq, readV_d, spent_t, opC_ok, put_d, rd_mv, Nat.reduceEqDiff, get_ne, reduceCtorEq, takeV_d, spent_mv, evalK_call, List.map_cons, List.map_nil, allLeave_cons, leaves_d, allLeave_nil, Bool.and_self, eCall_f, hk, callC_some, spentAll_cons, spentAll_nil, Nat.min_self, put_tup, readV_tup, evalK_extract, extV_0, copy_d, okS_some, extV_1, runOps_nil, thenC_nrm, evalK_un, un_not, Bool.not_true, Option.map_some, exL_cond, condC_b, Bool.false_eq_true, ↓reduceIte, exL_skip, evalK_lenS, lenS_s, evalK_bin, isC_t, Bool.or_self, bin_geq, e1, decide_false, hs, evalK_allocL, put_box, killLp_cons, killV_d, killV_tup, killV_undef, killV_slV, killLp_nil, evalK_store, readV_box, storeV_lp, cells_agg, List.length_cons, List.length_nil, Nat.zero_add, Nat.reduceAdd, ones_cons, vone_d, one_i, one_s, ones_nil, storeB_box, setCells_all, storeR_some, put_none, isC_c, Bool.or_true, rd_c, bin_neq, Bool.not_false, spent_c, exL_ret, thenC_ret, blockC_ret]
          exact ⟨by simp, _, rfl, rfl, rfl, rfl⟩
        | ok k t n a' =>
          obtain ⟨g1, g2, g3⟩ := hsp k t n a' rfl
          simp only [SyR, tok] at hs
          have happ : appendV 5 48 (slV eTk L) (.d (.sl [.agg [.i .i64 k, .i .i64 (j : Nat), .i .i64 (a' : Nat), .s t, .i .i32 n]])) = some (slV eTk (L ++ [⟨k, j, a', t, n⟩])) :=
            app_slV1 (x := (⟨k, j, a', t, n⟩ : Tk)) (fun _ => rfl) (roomy_of (by omega) (by omega))
          have ih' := ih a' (L ++ [⟨k, j, a', t, n⟩]) (by omega) (by omega) (by simp only [List.length_append, List.length_cons, List.length_nil]; omega)
          simp only [nxOf, g3, if_false]
          simp only [f_waferref11_Scan_B0, keepV_d, keepV_slV, exL_block, exL_seq, exL_ops, runOps_n, evalK_mov, rd_t, get_eq, readV_d, spent_t, opC_ok, put_d, rd_mv, Nat.reduceEqDiff, get_ne, reduceCtorEq, takeV_d, spent_mv, evalK_call, List.map_cons, List.map_nil, allLeave_cons, leaves_d, allLeave_nil, Bool.and_self, eCall_f, hk, callC_some, spentAll_cons, spentAll_nil, Nat.min_self, put_tup, readV_tup, evalK_extract, extV_0, copy_d, okS_some, extV_1, runOps_nil, thenC_nrm, evalK_un, un_not, Bool.not_true, Option.map_some, exL_cond, condC_b, Bool.false_eq_true, ↓reduceIte, exL_skip, evalK_lenS, lenS_s, evalK_bin, isC_t, Bool.or_self, bin_geq, e1, decide_false, hs, evalK_allocL, put_box, killLp_cons, killV_d, killV_tup, killV_undef, killV_slV, killLp_nil, evalK_store, readV_box, storeV_lp, cells_agg, List.length_cons, List.length_nil, Nat.zero_add, Nat.reduceAdd, ones_cons, vone_d, one_i, one_s, ones_nil, storeB_box, setCells_all, storeR_some, put_none, isC_c, Bool.or_true, rd_c, bin_neq, decide_true, takeV_slV, put_slV, evalK_load, loadV_lp, Nat.reduceLeDiff, boxV_A, List.drop_zero, List.take_succ_cons, List.take_zero, copy1_d, mkAgg_eq, allD_d, allD_nil, consD_some, aggV_some, evalK_buildSlice, dcells_agg, List.reduceReplicate, Nat.reduceLT, fillD_cons, List.set_cons_zero, fillD_nil, wfs_cons, wf_agg, dones_cons, dones_nil, wfs_nil, slO_some, put_osl, evalK_append, readV_osl, happ, appO_some, evalK_fieldAddr, faV_lp, put_lp, readV_lp, boxV_1, List.getElem?_cons_succ, List.getElem?_cons_zero, blockC_nrm, restrict_cons, restrict_nil, f_waferref11_Scan_l0_in]
          exact ih'
theorem rscan_call {s : List Nat} (hz : s.length ≤ 1000000) {H : List Obj} : (∀ p x, 20000 < s.length ∨ scanF s (s.length + 1) 0 [] = .inl (p, x) → 20000 < s.length ∨ x ≠ 0) ∧ callL pg 15 [.d (.s s)] H = some ⟨false, true, (if 20000 < s.length then .tup [.d .nil, .d (.i .i64 20000), .d (.i .i64 34)] else match scanF s (s.length + 1) 0 [] with
      | .inr L => .tup [.d (slD eTk L), .d (.i .i64 0), .d (.i .i64 0)]
      | .inl (p, x) => .tup [.d .nil, .d (.i .i64 (p : Nat)), .d (.i .i64 x)]), H, H.length⟩ := by
  have hl := rscan_loop hz (H := H) (s.length + 1) 0 [] (by omega) (by omega) (by simp)
  have hz0 : ((0 : Nat) : Int) = 0 := rfl
  have hs0 : slV eTk [] = .d .nil := rfl
  rw [hz0, hs0] at hl
  rw [callL_fn (fn := f_waferref11_Scan) rfl rfl]
  by_cases h1 : 20000 < s.length
  · have e1 : ((20000 : Int) < (s.length : Int)) = True := by rw [eq_iff_iff]; simp; omega
    refine ⟨fun _ _ _ => .inl h1, ?_⟩
    rw [if_pos h1]
    simp only [f_waferref11_Scan, argEnv_cons, Nat.zero_add, argEnv_nil, exL_seq, exL_ops, runOps_n, evalK_mov, rd_c, spent_c, opC_ok, put_d, runOps_nil, thenC_nrm, rd_t, reduceCtorEq, get_ne, get_eq, readV_d, spent_t, evalK_lenS, lenS_s, okS_some, evalK_bin, isC_t, isC_c, Bool.or_true, bin_gtr, e1, decide_true, exL_cond, condC_b, ↓reduceIte, exL_ret, thenC_ret, finC_ret, resultVs_cons, resultV_t, Nat.reduceEqDiff, ownV_d, resultVs_nil, consO_some, leaveC_2, leaves_tup, oks_cons, ok_d, oks_nil, Bool.and_self, ref_tup, refs_cons, ref_d, refs_nil, Nat.max_self, settle_tup, leave_pure]
    all_goals rfl
  · have e1 : ((20000 : Int) < (s.length : Int)) = False := by rw [eq_iff_iff]; simp; omega
    rw [if_neg h1]
    generalize scanF s (s.length + 1) 0 [] = r at hl
    cases r with
    | inr L =>
      obtain ⟨e, g1, g2, g3, g4⟩ := hl
      refine ⟨(fun p x h => h.elim .inl (fun h => nomatch h)), ?_⟩
      simp only [f_waferref11_Scan, argEnv_cons, Nat.zero_add, argEnv_nil, exL_seq, exL_ops, runOps_n, evalK_mov, rd_c, spent_c, opC_ok, put_d, runOps_nil, thenC_nrm, rd_t, reduceCtorEq, get_ne, get_eq, readV_d, spent_t, evalK_lenS, lenS_s, okS_some, evalK_bin, isC_t, isC_c, Bool.or_true, bin_gtr, e1, decide_false, exL_cond, condC_b, Bool.false_eq_true, ↓reduceIte, exL_skip, exL_block, f_waferref11_Scan_l0_in, keepV_d, Nat.reduceEqDiff]
      rw [g4]
      simp only [finC_ret, resultVs_cons, resultV_t, g1, ownV_slV, g2, ownV_d, g3, resultVs_nil, consO_some, leaveC_2, leaves_tup, oks_cons, ok_d, oks_nil, Bool.and_self, ref_tup, refs_cons, ref_d, refs_nil, Nat.max_self, settle_tup, leave_pure]
      all_goals rfl
    | inl q =>
      obtain ⟨p, x⟩ := q
      obtain ⟨hx, e, g1, g2, g3, g4⟩ := hl
      refine ⟨fun p' x' h => by
        rcases h with h | h
        · exact .inl h
        · cases h; exact .inr hx, ?_⟩
      simp only [f_waferref11_Scan, argEnv_cons, Nat.zero_add, argEnv_nil, exL_seq, exL_ops, runOps_n, evalK_mov, rd_c, spent_c, opC_ok, put_d, runOps_nil, thenC_nrm, rd_t, reduceCtorEq, get_ne, get_eq, readV_d, spent_t, evalK_lenS, lenS_s, okS_some, evalK_bin, isC_t, isC_c, Bool.or_true, bin_gtr, e1, decide_false, exL_cond, condC_b, Bool.false_eq_true, ↓reduceIte, exL_skip, exL_block, f_waferref11_Scan_l0_in, keepV_d, Nat.reduceEqDiff]
      rw [g4]
      simp only [finC_ret, resultVs_cons, resultV_t, g1, ownV_d, g2, g3, resultVs_nil, consO_some, leaveC_2, leaves_tup, oks_cons, ok_d, oks_nil, Bool.and_self, ref_tup, refs_cons, ref_d, refs_nil, Nat.max_self, settle_tup, leave_pure]
      all_goals rfl
theorem tk_neq {x : Tk} {c : Bool} : binV .neq (.agg [1, 1, 1, 2, 1]) c (.d (eTk x)) (.d (eTk x)) = some (.d (.b false)) := by
  have he : ∀ k : IntKind, eqK k k = true := fun k => by cases k <;> rfl
  have hi : ∀ n : Int, eqI n n = true := fun n => by rw [eqI_d]; simp
  have ht : ∀ t : List Nat, eqT t t = true := fun t => by rw [eqT_d]; simp
  simp [binV, sameV, eTk, D.scalarSame, he, hi, ht]
theorem tokens_loop {L : List Tk} (hz : L.length ≤ 1000001) {H : List Obj} :
    ∀ (k i : Nat), L.length - i = k → i ≤ L.length → ∃ e, get 4 e = .d (.b true) ∧
      thenC pg (blockC 0 [] (f_waferhelp_Tokens_l0 pg (.d (slD eTk L)) (.d (slD eTk L)) (.d (.i .i64 (i : Nat))) H H.length)) f_waferhelp_Tokens_R1 = some (.ret, ⟨e, H, H.length⟩) := by
  intro k
  induction k with
  | zero =>
    intro i hk hi
    obtain rfl : i = L.length := by omega
    have h1 : ((L.length : Int) < (L.length : Int)) = False := by simp
    rw [f_waferhelp_Tokens_l0_eq]
    simp only [f_waferhelp_Tokens_B0, keepV_d, exL_seq, exL_ops, runOps_n, evalK_mov, rd_t, reduceCtorEq, get_ne, Nat.reduceEqDiff, get_eq, readV_d, spent_t, opC_ok, put_d, evalK_lenL, lenL_slD, okS_some, evalK_bin, isC_t, Bool.or_self, bin_lss, h1, decide_false, runOps_nil, thenC_nrm, exL_cond, condC_b, Bool.false_eq_true, ↓reduceIte, exL_exit, thenC_exit, blockC_exit, restrict_nil, f_waferhelp_Tokens_R1, rd_c, spent_c, exL_ret]
    exact ⟨_, rfl, rfl⟩
  | succ k ih =>
    intro i hk hi
    have h1 : ((i : Int) < (L.length : Int)) = True := by rw [eq_iff_iff]; simp; omega
    have hlt : i < L.length := by omega
    have hia : iaV (.d (slD eTk L)) (.d (.i .i64 (i : Int))) 5 none = some (.cp (eTk L[i])) := iaV_slD (fun _ => rfl) (by omega) (by simp)
    have hld : ∀ st, loadV none ⟨5, true⟩ st (.cp (eTk L[i])) = some (.d (eTk L[i])) := fun st => rfl
    have hw : wr .i64 ((i : Int) + 1) = ((i + 1 : Nat) : Int) := by rw [wr_i64 (by omega) (by omega)]; omega
    have hn : ∀ c, binV .neq (.agg [1, 1, 1, 2, 1]) c (.d (eTk L[i])) (.d (eTk L[i])) = some (.d (.b false)) := fun c => tk_neq
    have ih' := ih (i + 1) (by omega) (by omega)
    rw [f_waferhelp_Tokens_l0_eq]
    generalize eTk L[i] = x at hia hld hn
    simp only [f_waferhelp_Tokens_B0, keepV_d, exL_seq, exL_ops, runOps_n, evalK_mov, rd_t, reduceCtorEq, get_ne, Nat.reduceEqDiff, get_eq, readV_d, spent_t, opC_ok, put_d, evalK_lenL, lenL_slD, okS_some, evalK_bin, isC_t, Bool.or_self, bin_lss, h1, decide_true, runOps_nil, thenC_nrm, exL_cond, condC_b, ↓reduceIte, exL_skip, exL_block, exL_opsD, runOpsD_n, opDC_same, putD_d, putC_some, evalK_indexAddr, hia, putD_cp, evalK_load, readV_cp, hld, hn, opDC_serial, runOpsD_nil, Bool.false_eq_true, blockC_nrm, restrict_cons, restrict_nil, isC_c, Bool.or_true, rd_c, bin_add, hw, f_waferhelp_Tokens_l0_in]
    exact ih'
theorem tokens_call {L : List Tk} (hz : L.length ≤ 1000001) {H : List Obj} : callL pg 24 [.d (slD eTk L), .d (slD eTk L)] H = some ⟨false, true, .d (.b true), H, H.length⟩ := by
  obtain ⟨e, g1, g2⟩ := tokens_loop hz (H := H) L.length 0 rfl (by omega)
  have hz0 : ((0 : Nat) : Int) = 0 := rfl
  rw [hz0] at g2
  rw [callL_fn (fn := f_waferhelp_Tokens) rfl rfl]
  simp only [f_waferhelp_Tokens, argEnv_cons, Nat.zero_add, Nat.reduceAdd, argEnv_nil, exL_seq, exL_ops, runOps_n, evalK_mov, rd_c, spent_c, opC_ok, put_d, runOps_nil, thenC_nrm, rd_t, reduceCtorEq, get_ne, get_eq, readV_d, spent_t, evalK_lenL, lenL_slD, okS_some, Nat.reduceEqDiff, evalK_bin, isC_t, Bool.or_self, bin_neq, decide_true, Bool.not_true, exL_cond, condC_b, Bool.false_eq_true, ↓reduceIte, exL_skip, exL_block, f_waferhelp_Tokens_l0_in, keepV_d]
  rw [g2]
  simp only [finC_ret, resultVs_cons, resultV_t, g1, ownV_d, resultVs_nil, consO_some, leaveC_1, leaves_d, ref_d, settle_d, leave_pure]
  all_goals rfl
theorem scanF_len {s : List Nat} : ∀ (f a : Nat) (L L' : List Tk), scanF s f a L = .inr L' → L'.length ≤ L.length + f
  | 0, _, _, _, h => by cases h
  | f + 1, a, L, L', h => by
    rw [scanF] at h
    split at h
    · cases h
    · split at h
      · cases h; simp
      · have := scanF_len f _ _ L' h
        simp only [List.length_append, List.length_cons, List.length_nil] at this
        omega
theorem told_call {s : List Nat} (hs : ∀ c ∈ s, c < 256) (hz : s.length ≤ 1000000) {H : List Obj} : callL pg 13 [.d (.s s)] H = some ⟨false, true, .d (.b true), H, H.length⟩ := by
  obtain ⟨lo, hlo, ha⟩ := all_call hs hz (H := H)
  obtain ⟨hx, hr⟩ := rscan_call hz (H := H)
  have hm : min H.length lo = H.length := by omega
  rw [callL_fn (fn := f_waferlaw11_told) rfl rfl]
  by_cases h1 : 20000 < s.length
  · rw [if_pos h1] at ha hr
    have i0 : iaV (.d (.sl [.agg [.i .i64 20000, .i .i64 34]])) (.d (.i .i64 0)) 2 none = some (.cp (.agg [.i .i64 20000, .i .i64 34])) := rfl
    simp only [f_waferlaw11_told, argEnv_cons, Nat.zero_add, argEnv_nil, exL_seq, exL_ops, runOps_n, evalK_mov, rd_c, spent_c, opC_ok, put_d, runOps_nil, thenC_nrm, rd_t, reduceCtorEq, get_ne, get_eq, readV_d, spent_t, evalK_call, List.map_cons, List.map_nil, allLeave_cons, leaves_d, allLeave_nil, Bool.and_self, eCall_f, ha, callC_some, spentAll_cons, spentAll_nil, hm, put_tup, readV_tup, evalK_extract, extV_0, copy_d, okS_some, Nat.reduceEqDiff, extV_1, rd_mv, takeV_d, spent_mv, hr, Nat.min_self, extV_2, evalK_bin, isC_t, isC_c, Bool.or_true, bin_neq, Int.reduceEq, decide_false, Bool.not_false, exL_cond, condC_b, ↓reduceIte, evalK_lenL, lenL_nil, bin_eql, decide_true, runOps_g, wantG_bt, wantC_b, lenL_sl, List.length_cons, List.length_nil, Int.cast_ofNat_Int, evalK_pick, pickV_b, evalK_indexAddr, i0, put_cp, evalK_fieldAddr, readV_cp, faV_cpc, List.getElem?_cons_zero, cpV_i, evalK_load, loadV_cp_i, Bool.or_self, List.getElem?_cons_succ, exL_ret, thenC_ret, finC_ret, resultVs_cons, resultV_t, ownV_d, resultVs_nil, consO_some, leaveC_1, ref_d, settle_d, leave_pure]
    all_goals rfl
  · rw [if_neg h1] at ha hr
    have hlen := scanF_len (s := s) (s.length + 1) 0 []
    generalize scanF s (s.length + 1) 0 [] = r at ha hr hx hlen
    cases r with
    | inr L =>
      have hL := hlen L rfl
      simp only [List.length_nil] at hL
      have ht := tokens_call (L := L) (by omega) (H := H)
      simp only at ha hr
      simp only [f_waferlaw11_told, argEnv_cons, Nat.zero_add, argEnv_nil, exL_seq, exL_ops, runOps_n, evalK_mov, rd_c, spent_c, opC_ok, put_d, runOps_nil, thenC_nrm, rd_t, reduceCtorEq, get_ne, get_eq, readV_d, spent_t, evalK_call, List.map_cons, List.map_nil, allLeave_cons, leaves_d, allLeave_nil, Bool.and_self, eCall_f, ha, callC_some, spentAll_cons, spentAll_nil, hm, put_tup, readV_tup, evalK_extract, extV_0, copy_d, okS_some, Nat.reduceEqDiff, extV_1, rd_mv, takeV_d, spent_mv, hr, Nat.min_self, extV_2, evalK_bin, isC_t, isC_c, Bool.or_true, bin_neq, decide_true, Bool.not_true, exL_cond, condC_b, Bool.false_eq_true, ↓reduceIte, exL_skip, evalK_lenL, lenL_nil, bin_eql, runOps_g, wantG_bt, wantC_b, ht, evalK_pick, pickV_b, exL_ret, finC_ret, resultVs_cons, resultV_t, ownV_d, resultVs_nil, consO_some, leaveC_1, ref_d, settle_d, leave_pure]
      all_goals rfl
    | inl q =>
      obtain ⟨p, x⟩ := q
      have hx0 : x ≠ 0 := (hx p x (.inr rfl)).resolve_left h1
      have x0 : (x = 0) = False := eq_false hx0
      have i0 : iaV (.d (.sl [.agg [.i .i64 (p : Nat), .i .i64 x]])) (.d (.i .i64 0)) 2 none = some (.cp (.agg [.i .i64 (p : Nat), .i .i64 x])) := rfl
      simp only at ha hr
      simp only [f_waferlaw11_told, argEnv_cons, Nat.zero_add, argEnv_nil, exL_seq, exL_ops, runOps_n, evalK_mov, rd_c, spent_c, opC_ok, put_d, runOps_nil, thenC_nrm, rd_t, reduceCtorEq, get_ne, get_eq, readV_d, spent_t, evalK_call, List.map_cons, List.map_nil, allLeave_cons, leaves_d, allLeave_nil, Bool.and_self, eCall_f, ha, callC_some, spentAll_cons, spentAll_nil, hm, put_tup, readV_tup, evalK_extract, extV_0, copy_d, okS_some, Nat.reduceEqDiff, extV_1, rd_mv, takeV_d, spent_mv, hr, Nat.min_self, extV_2, evalK_bin, isC_t, isC_c, Bool.or_true, bin_neq, x0, decide_false, Bool.not_false, exL_cond, condC_b, ↓reduceIte, evalK_lenL, lenL_nil, bin_eql, decide_true, runOps_g, wantG_bt, wantC_b, lenL_sl, List.length_cons, List.length_nil, Int.cast_ofNat_Int, evalK_pick, pickV_b, evalK_indexAddr, i0, put_cp, evalK_fieldAddr, readV_cp, faV_cpc, List.getElem?_cons_zero, cpV_i, evalK_load, loadV_cp_i, Bool.or_self, List.getElem?_cons_succ, exL_ret, thenC_ret, finC_ret, resultVs_cons, resultV_t, ownV_d, resultVs_nil, consO_some, leaveC_1, ref_d, settle_d, leave_pure]
      all_goals rfl
end W

set_option linter.unusedSimpArgs false
set_option linter.unusedVariables false
namespace W
open Go (IntKind BinOp UnOp)
set_option maxRecDepth 20000
theorem known_run : isD (callJ pg 3000 11 [] []) (.b true) = true := by decide +kernel
theorem known_call : ∃ lo, callL pg 11 [] [] = some ⟨false, true, .d (.b true), [], lo⟩ := isD_call ext_lo known_run
end W

set_option linter.unusedSimpArgs false
set_option linter.unusedVariables false
namespace W
open Go (IntKind BinOp UnOp)
set_option maxRecDepth 20000
abbrev By := {c : Nat // c < 256}
def eBy (c : By) : D := .i .u8 (c.1 : Nat)
theorem by_at {x : D} {L : List By} (hx : SlD eBy x L) {i : Nat} {c : By} (h : L[i]? = some c) : iaV (.d x) (.d (.i .i64 (i : Int))) 1 none = some (.cp (.i .u8 (c.1 : Nat))) := by
  cases hx with
  | nil => simp at h
  | sl => exact iaV_sl (y := eBy c) (by omega) (by rw [Int.toNat_natCast, List.getElem?_map, h]; rfl) (by simp [eBy, D.cells])
theorem by_len {x : D} {L : List By} (hx : SlD eBy x L) {H : List Obj} : lenV .lenL (.d x) H = some (.d (.i .i64 L.length)) := by
  cases hx <;> simp [lenV]
theorem tmod_nat {a m : Nat} : ((a : Int).tmod (m : Int)) = ((a % m : Nat) : Int) := by
  rw [Int.tmod_eq_emod_of_nonneg (by omega)]; exact (Int.natCast_emod a m).symm
theorem sg_lt : ∀ c ∈ SG, c < 256 := by decide
theorem signs_loop {x : D} {L : List By} (hx : SlD eBy x L) (hz : L.length ≤ 40) {H : List Obj} :
    ∀ (k i : Nat) (t : List Nat), L.length - i = k → i ≤ L.length → t.length ≤ i → (∀ c ∈ t, c < 256) →
      ∃ t', t'.length ≤ L.length ∧ (∀ c ∈ t', c < 256) ∧ blockC 0 [3] (f_waferlaw11_ScanSigns_l0 pg (.d x) (.d (.s t)) (.d (.i .i64 (i : Nat))) H H.length) = some (.nrm, ⟨[(3, .d (.s t'))], H, H.length⟩) := by
  intro k
  induction k with
  | zero =>
    intro i t hk hi ht htb
    obtain rfl : i = L.length := by omega
    have h1 : ((L.length : Int) < (L.length : Int)) = False := by simp
    refine ⟨t, ht, htb, ?_⟩
    rw [f_waferlaw11_ScanSigns_l0_eq]
    simp only [f_waferlaw11_ScanSigns_B0, keepV_d, exL_seq, exL_ops, runOps_n, evalK_mov, rd_t, reduceCtorEq, get_ne, Nat.reduceEqDiff, get_eq, readV_d, spent_t, opC_ok, put_d, evalK_lenL, by_len hx, okS_some, evalK_bin, isC_t, Bool.or_self, bin_lss, h1, decide_false, runOps_nil, thenC_nrm, exL_cond, condC_b, Bool.false_eq_true, ↓reduceIte, exL_exit, thenC_exit, blockC_exit, restrict_cons, restrict_nil]
    all_goals rfl
  | succ k ih =>
    intro i t hk hi ht htb
    have h1 : ((i : Int) < (L.length : Int)) = True := by rw [eq_iff_iff]; simp; omega
    have hlt : i < L.length := by omega
    obtain ⟨c, hc⟩ : ∃ c, L[i]? = some c := ⟨L[i], by simp⟩
    have hia := by_at hx hc
    have hw : wr .i64 ((i : Int) + 1) = ((i + 1 : Nat) : Int) := by rw [wr_i64 (by omega) (by omega)]; omega
    have hc256 := c.2
    have hcv : wr .i64 ((c.1 : Nat) : Int) = (c.1 : Int) := by rw [wr_i64 (by omega) (by omega)]
    have hm : ((c.1 : Int).tmod 22) = ((c.1 % 22 : Nat) : Int) := tmod_nat (a := c.1) (m := 22)
    have hm22 : c.1 % 22 < 22 := Nat.mod_lt _ (by omega)
    generalize c.1 % 22 = m at hm hm22
    have hw2 : wr .i64 ((m : Int) + 1) = ((m + 1 : Nat) : Int) := by rw [wr_i64 (by omega) (by omega)]; omega
    have hs := sl_mid (l := SG) (a := m) (b := m + 1) (by omega) (by simp [SG]; omega)
    have hs1 : ((SG.take (m + 1)).drop m).length ≤ 1 := by simp only [List.length_drop, List.length_take]; omega
    have hs2 : ∀ c ∈ (SG.take (m + 1)).drop m, c < 256 := fun c h => sg_lt c (List.mem_of_mem_take (List.mem_of_mem_drop h))
    generalize (SG.take (m + 1)).drop m = u at hs hs1 hs2
    simp only [SG] at hs
    have hlen : t.length + u.length ≤ 9223372036854775807 := by omega
    obtain ⟨t', g1, g2, g3⟩ := ih (i + 1) (t ++ u) (by omega) (by omega) (by simp only [List.length_append]; omega) (fun c h => by
      rcases List.mem_append.1 h with h | h
      · exact htb c h
      · exact hs2 c h)
    refine ⟨t', g1, g2, ?_⟩
    have z22 : ((22 : Int) = 0) = False := by simp
    rw [f_waferlaw11_ScanSigns_l0_eq]
    simp only [f_waferlaw11_ScanSigns_B0, keepV_d, exL_seq, exL_ops, runOps_n, evalK_mov, rd_t, reduceCtorEq, get_ne, Nat.reduceEqDiff, get_eq, readV_d, spent_t, opC_ok, put_d, evalK_lenL, by_len hx, okS_some, evalK_bin, isC_t, Bool.or_self, bin_lss, h1, decide_true, runOps_nil, thenC_nrm, exL_cond, condC_b, ↓reduceIte, exL_skip, exL_block, evalK_indexAddr, hia, put_cp, evalK_load, readV_cp, loadV_cp_i, evalK_conv, hcv, isC_c, Bool.or_true, rd_c, z22, bin_rem, hm, bin_add, hw2, evalK_sliceS, optInt_some, oInt_i, cut2_some, hs, hlen, bin_sadd, blockC_nrm, restrict_cons, restrict_nil, hw, f_waferlaw11_ScanSigns_l0_in]
    exact g3
theorem bytes_app {t u : List Nat} (h1 : ∀ c ∈ t, c < 256) (h2 : ∀ c ∈ u, c < 256) : ∀ c ∈ t ++ u, c < 256 := fun c h => by
  rcases List.mem_append.1 h with h | h
  · exact h1 c h
  · exact h2 c h
theorem signs_law {x : D} {L : List By} (hx : SlD eBy x L) : callL pg 9 [.d x] [] = some ⟨false, true, .d (.b true), [], 0⟩ := by
  obtain ⟨lo, hk⟩ := known_call
  have hz0 : ∀ n : Nat, min 0 n = 0 := Nat.zero_min
  have hz1 : ((0 : Nat) : Int) = 0 := rfl
  rw [callL_fn (fn := f_waferlaw11_ScanSigns) rfl rfl]
  by_cases h40 : 40 < L.length
  · have h1 : ((40 : Int) < (L.length : Int)) = True := by rw [eq_iff_iff]; simp; omega
    simp only [f_waferlaw11_ScanSigns, argEnv_cons, Nat.zero_add, argEnv_nil, List.length_nil, exL_seq, exL_ops, runOps_n, evalK_mov, rd_c, spent_c, opC_ok, put_d, runOps_nil, thenC_nrm, evalK_call, List.map_nil, allLeave_nil, eCall_f, hk, callC_some, spentAll_nil, hz0, evalK_un, rd_t, get_eq, readV_d, un_not, Bool.not_true, Option.map_some, okS_some, exL_cond, condC_b, Bool.false_eq_true, ↓reduceIte, exL_skip, reduceCtorEq, get_ne, spent_t, evalK_lenL, by_len hx, evalK_bin, isC_t, isC_c, Bool.or_true, bin_gtr, h1, decide_true, exL_ret, thenC_ret, finC_ret, resultVs_cons, resultV_t, ownV_d, resultVs_nil, consO_some, leaveC_1]
    all_goals rfl
  · have h1 : ((40 : Int) < (L.length : Int)) = False := by rw [eq_iff_iff]; simp; omega
    obtain ⟨t, g1, g2, g3⟩ := signs_loop hx (by omega) (H := []) L.length 0 [] rfl (by omega) (by simp) (by simp)
    rw [hz1] at g3
    simp only [List.length_nil] at g3
    have t1 := told_call (s := t) g2 (by omega) (H := [])
    have t2 := told_call (s := t ++ [32, 120]) (bytes_app g2 (by decide)) (by simp only [List.length_append, List.length_cons, List.length_nil]; omega) (H := [])
    have t3 := told_call (s := [120] ++ t ++ [49]) (bytes_app (bytes_app (by decide) g2) (by decide)) (by simp only [List.length_append, List.length_cons, List.length_nil]; omega) (H := [])
    simp only [List.length_nil] at t1 t2 t3
    have l2 : t.length + [32, 120].length ≤ 9223372036854775807 := by simp only [List.length_cons, List.length_nil]; omega
    have l3 : [120].length + t.length ≤ 9223372036854775807 := by simp only [List.length_cons, List.length_nil]; omega
    have l4 : ([120] ++ t).length + [49].length ≤ 9223372036854775807 := by simp only [List.length_append, List.length_cons, List.length_nil]; omega
    have a2 : ∀ c, binV .add .num c (.d (.s t)) (.d (.s [32, 120])) = some (.d (.s (t ++ [32, 120]))) := fun c => bin_sadd l2
    have a3 : ∀ c, binV .add .num c (.d (.s [120])) (.d (.s t)) = some (.d (.s ([120] ++ t))) := fun c => bin_sadd l3
    have a4 : ∀ c, binV .add .num c (.d (.s ([120] ++ t))) (.d (.s [49])) = some (.d (.s ([120] ++ t ++ [49]))) := fun c => bin_sadd l4
    generalize t ++ [32, 120] = u2 at t2 a2
    generalize [120] ++ t ++ [49] = u4 at t3 a4
    generalize [120] ++ t = u3 at a3 a4
    simp only [f_waferlaw11_ScanSigns, f_waferlaw11_ScanSigns_R1, argEnv_cons, Nat.zero_add, argEnv_nil, List.length_nil, exL_seq, exL_ops, runOps_n, evalK_mov, rd_c, spent_c, opC_ok, put_d, runOps_nil, thenC_nrm, evalK_call, List.map_nil, allLeave_nil, eCall_f, hk, callC_some, spentAll_nil, hz0, evalK_un, rd_t, get_eq, readV_d, un_not, Bool.not_true, Option.map_some, okS_some, exL_cond, condC_b, Bool.false_eq_true, ↓reduceIte, exL_skip, reduceCtorEq, get_ne, spent_t, evalK_lenL, by_len hx, evalK_bin, isC_t, isC_c, Bool.or_true, bin_gtr, h1, decide_false, exL_block, f_waferlaw11_ScanSigns_l0_in, keepV_d, Nat.reduceEqDiff, g3, List.map_cons, allLeave_cons, leaves_d, Bool.and_self, t1, spentAll_cons, rd_mv, takeV_d, spent_mv, runOps_g, wantG_bt, wantC_b, a2, t2, evalK_pick, pickV_b, Bool.or_false, a3, a4, t3, exL_ret, finC_ret, resultVs_cons, resultV_t, ownV_d, resultVs_nil, consO_some, leaveC_1]
    all_goals rfl
end W

set_option linter.unusedSimpArgs false
set_option linter.unusedVariables false
namespace W
open Go (IntKind BinOp UnOp)
set_option maxRecDepth 20000
def kwOk (s : List Nat) : Bool :=
  decide (scanF s (s.length + 1) 0 [] = .inr [⟨6, 0, s.length, s, 0⟩, ⟨0, s.length, s.length, [], 0⟩])
theorem kw_ok : KW.all kwOk = true := by decide +kernel
def ixOk (t : List Nat) : Bool :=
  decide (scanF t (t.length + 1) 0 [] = .inr [⟨if t ∈ KW then 6 else 1, 0, t.length, t, 0⟩, ⟨0, t.length, t.length, [], 0⟩])
theorem kwx_ok : KW.all (fun s => ixOk (s ++ [120])) = true := by decide +kernel
theorem kwc_ok : KW.all (fun s => ixOk (s.take (s.length - 1))) = true := by decide +kernel
theorem kw_small : KW.all (fun s => decide (s.length ≤ 20) && decide (1 ≤ s.length) && s.all (fun c => decide (c < 256))) = true := by decide +kernel
theorem keys_loop {v0 v1 v2 : D} {H : List Obj} :
    ∀ (k i : Nat), KW.length - i = k → i ≤ KW.length → blockC 0 [0, 1, 2, 8] (f_waferlaw11_ScanKeys_l0 pg (.d v0) (.d v1) (.d v2) (.d (slD D.s KW)) (slV D.s KW) (.d (.i .i64 (i : Nat))) H H.length) = some (.nrm, ⟨[(0, .d v0), (1, .d v1), (2, .d v2), (8, slV D.s KW)], H, H.length⟩) := by
  have hlen : KW.length = 33 := by decide
  intro k
  induction k with
  | zero =>
    intro i hk hi
    obtain rfl : i = KW.length := by omega
    have h1 : ((KW.length : Int) < (KW.length : Int)) = False := by simp
    rw [f_waferlaw11_ScanKeys_l0_eq]
    simp only [f_waferlaw11_ScanKeys_B0, keepV_d, keepV_slV, exL_seq, exL_ops, runOps_n, evalK_mov, rd_t, reduceCtorEq, get_ne, Nat.reduceEqDiff, get_eq, readV_d, spent_t, opC_ok, put_d, evalK_lenL, lenL_slD, okS_some, evalK_bin, isC_t, Bool.or_self, bin_lss, h1, decide_false, runOps_nil, thenC_nrm, exL_cond, condC_b, Bool.false_eq_true, ↓reduceIte, exL_exit, thenC_exit, blockC_exit, restrict_cons, restrict_nil]
    all_goals rfl
  | succ k ih =>
    intro i hk hi
    have h1 : ((i : Int) < (KW.length : Int)) = True := by rw [eq_iff_iff]; simp; omega
    have hlt : i < KW.length := by omega
    have hia : iaV (.d (slD D.s KW)) (.d (.i .i64 (i : Int))) 1 none = some (.cp (.s KW[i])) := iaV_slD (fun _ => rfl) (by omega) (by simp)
    have hw : wr .i64 ((i : Int) + 1) = ((i + 1 : Nat) : Int) := by rw [wr_i64 (by omega) (by omega)]; omega
    have ih' := ih (i + 1) (by omega) (by omega)
    generalize KW[i] = t at hia
    rw [f_waferlaw11_ScanKeys_l0_eq]
    simp only [f_waferlaw11_ScanKeys_B0, keepV_d, keepV_slV, exL_seq, exL_ops, runOps_n, evalK_mov, rd_t, reduceCtorEq, get_ne, Nat.reduceEqDiff, get_eq, readV_d, spent_t, opC_ok, put_d, evalK_lenL, lenL_slD, okS_some, evalK_bin, isC_t, Bool.or_self, bin_lss, h1, decide_true, runOps_nil, thenC_nrm, exL_cond, condC_b, ↓reduceIte, exL_skip, exL_block, exL_opsD, runOpsD_n, opDC_same, putD_d, putC_some, evalK_indexAddr, hia, putD_cp, evalK_load, readV_cp, loadV_cp_s, readV_slV, bin_sneq, Bool.not_true, opDC_serial, runOpsD_nil, Bool.false_eq_true, blockC_nrm, restrict_cons, restrict_nil, isC_c, Bool.or_true, rd_c, bin_add, hw, f_waferlaw11_ScanKeys_l0_in]
    exact ih'
theorem keys_law {a b : Nat} {c : Bool} (ha : a < 256) (hb : b < 256) : callL pg 7 [.d (.i .u8 (a : Nat)), .d (.i .u8 (b : Nat)), .d (.b c)] [] = some ⟨false, true, .d (.b true), [], 0⟩ := by
  obtain ⟨lo, hk⟩ := known_call
  have hz0 : ∀ n : Nat, min 0 n = 0 := Nat.zero_min
  have hz1 : ((0 : Nat) : Int) = 0 := rfl
  have hlen : KW.length = 33 := by decide
  have hl := keys_loop (v0 := .i .u8 (a : Nat)) (v1 := .i .u8 (b : Nat)) (v2 := .b c) (H := []) KW.length 0 rfl (by omega)
  rw [hz1] at hl
  have hkd : D.sl (KW.map D.s) = slD D.s KW := rfl
  have hkc := kw_call (H := [])
  rw [hkd] at hkc
  have hks := kwords_call (H := [])
  have hcv : wr .i64 (a : Int) = (a : Int) := by rw [wr_i64 (by omega) (by omega)]
  have hmr : ((a : Int).tmod 33) = ((a % 33 : Nat) : Int) := tmod_nat (a := a) (m := 33)
  have hL33 : ((KW.length : Nat) : Int) = 33 := by rw [hlen]; rfl
  have z33 : ((33 : Int) = 0) = False := by simp
  have hm33 : a % 33 < 33 := Nat.mod_lt _ (by omega)
  generalize a % 33 = m at hmr hm33
  have hlt : m < KW.length := by omega
  have hmem : KW[m] ∈ KW := List.getElem_mem hlt
  have hia : iaV (.d (slD D.s KW)) (.d (.i .i64 (m : Int))) 1 none = some (.cp (.s KW[m])) := iaV_slD (fun _ => rfl) (by omega) (by simp)
  have q1 := List.all_eq_true.1 kw_ok _ hmem
  have q2 := List.all_eq_true.1 kwx_ok _ hmem
  have q3 := List.all_eq_true.1 kwc_ok _ hmem
  have q4 := List.all_eq_true.1 kw_small _ hmem
  generalize KW[m] = s at hia q1 q2 q3 q4
  simp only [Bool.and_eq_true, decide_eq_true_eq, List.all_eq_true] at q4
  obtain ⟨⟨g1, g2⟩, g3⟩ := q4
  have q1 := of_decide_eq_true q1
  have q2 := of_decide_eq_true q2
  have q3 := of_decide_eq_true q3
  obtain ⟨lo1, h1a, h1⟩ := all_call (s := s) g3 (by omega) (H := [])
  rw [if_neg (by omega), q1] at h1
  have ht := told_call (s := s ++ [b]) (bytes_app g3 (by simpa using hb)) (by simp only [List.length_append, List.length_cons, List.length_nil]; omega) (H := [])
  have a1 : ∀ c, binV .add .num c (.d (.s s)) (.d (.s [120])) = some (.d (.s (s ++ [120]))) := fun c => bin_sadd (by simp only [List.length_cons, List.length_nil]; omega)
  have a2 : ∀ c, binV .add .num c (.d (.s s)) (.d (.s [b])) = some (.d (.s (s ++ [b]))) := fun c => bin_sadd (by simp only [List.length_cons, List.length_nil]; omega)
  have hbt : textV (.d (.sl [.i .u8 (b : Nat)])) [] = some (.d (.s [b])) := by
    have : bytesOf [D.i .u8 (b : Nat)] = some [b] := bytesOf_map (t := [b]) (by simpa using hb)
    simp only [textV, this]; rfl
  have i0 : ∀ (k : Int) (n : Nat) (t : List Nat), iaV (.d (.sl [.agg [.i .i64 k, .i .i64 0, .i .i64 (n : Nat), .s t, .i .i32 0], .agg [.i .i64 0, .i .i64 (n : Nat), .i .i64 (n : Nat), .s [], .i .i32 0]])) (.d (.i .i64 0)) 5 none = some (.cp (.agg [.i .i64 k, .i .i64 0, .i .i64 (n : Nat), .s t, .i .i32 0])) := fun _ _ _ => rfl
  have hsl : ∀ (k : Int) (n : Nat) (t : List Nat), slD eTk [⟨k, 0, n, t, 0⟩, ⟨0, n, n, [], 0⟩] = .sl [.agg [.i .i64 k, .i .i64 0, .i .i64 (n : Nat), .s t, .i .i32 0], .agg [.i .i64 0, .i .i64 (n : Nat), .i .i64 (n : Nat), .s [], .i .i32 0]] := fun _ _ _ => rfl
  have fin : ∀ t : List Nat, (∀ c ∈ t, c < 256) → t.length ≤ 30 → scanF t (t.length + 1) 0 [] = .inr [⟨if t ∈ KW then 6 else 1, 0, t.length, t, 0⟩, ⟨0, t.length, t.length, [], 0⟩] →
      ∃ lo2, 0 ≤ lo2 ∧ callL pg 16 [.d (.s t)] [] = some ⟨false, true, .tup [.d (.sl [.agg [.i .i64 (if t ∈ KW then 6 else 1), .i .i64 0, .i .i64 (t.length : Nat), .s t, .i .i32 0], .agg [.i .i64 0, .i .i64 (t.length : Nat), .i .i64 (t.length : Nat), .s [], .i .i32 0]]), .d .nil], [], lo2⟩ := by
    intro t hb ht h
    obtain ⟨lo2, h2a, h2⟩ := all_call (s := t) hb (by omega) (H := [])
    rw [if_neg (by omega), h] at h2
    exact ⟨lo2, Nat.zero_le _, h2⟩
  simp only [hsl] at h1
  simp only [List.length_nil] at ht hl hkc hks
  rw [callL_fn (fn := f_waferlaw11_ScanKeys) rfl rfl]
  have w2 : ((s.length : Int) - 1 : Int) = ((s.length - 1 : Nat) : Int) := by omega
  have hw : wr .i64 ((s.length : Int) - 1) = ((s.length - 1 : Nat) : Int) := by rw [wr_i64 (by omega) (by omega)]; omega
  have hcut := sl_take (l := s) (n := s.length - 1) (by omega)
  have e00 : wr .i64 (0 + 0) = 0 := rfl
  have e00' : wr .i64 0 = 0 := rfl
  cases c with
  | true =>
    have hb2 : ∀ c ∈ s.take (s.length - 1), c < 256 := fun c h => g3 c (List.mem_of_mem_take h)
    obtain ⟨lo2, _, h2⟩ := fin (s.take (s.length - 1)) hb2 (by simp only [List.length_take]; omega) q3
    have hkw := keyword_call (t := s.take (s.length - 1)) (H := [])
    generalize s.take (s.length - 1) = t at *
    by_cases hm : t ∈ KW
    · rw [if_pos hm] at h2
      rw [decide_eq_true hm] at hkw
      simp only [List.length_nil] at hkw
      simp only [f_waferlaw11_ScanKeys, f_waferlaw11_ScanKeys_R1, argEnv_cons, Nat.zero_add, Nat.reduceAdd, argEnv_nil, List.length_nil, exL_seq, exL_ops, runOps_n, evalK_mov, rd_c, spent_c, opC_ok, put_d, runOps_nil, thenC_nrm, evalK_call, List.map_nil, allLeave_nil, eCall_f, hk, callC_some, spentAll_nil, hz0, evalK_un, rd_t, get_eq, readV_d, un_not, Bool.not_true, Option.map_some, okS_some, exL_cond, condC_b, Bool.false_eq_true, ↓reduceIte, exL_skip, hkc, rd_mv, takeV_d, spent_mv, hks, put_slV, takeV_slV, Nat.reduceEqDiff, get_ne, spent_t, evalK_lenL, lenL_slD, hL33, readV_slV, evalK_bin, isC_t, Bool.or_self, bin_neq, decide_true, exL_block, f_waferlaw11_ScanKeys_l0_in, reduceCtorEq, keepV_d, keepV_slV, hl, evalK_conv, hcv, z33, bin_rem, hmr, evalK_indexAddr, hia, put_cp, evalK_load, readV_cp, loadV_cp_s, isC_c, Bool.or_true, a1, evalK_lenS, lenS_s, bin_sub, hw, evalK_sliceS, optInt_none, optInt_some, oInt_i, cut2_some, hcut, List.map_cons, allLeave_cons, leaves_d, Bool.and_self, h1, spentAll_cons, put_tup, readV_tup, evalK_extract, extV_0, copy_d, extV_1, h2, exL_opsD, runOpsD_n, opDC_same, putD_d, putC_some, lenL_nil, bin_add, Int.reduceAdd, e00', opDC_serial, bin_eql, runOpsD_g, wantG_bt, wantDC_b, lenL_sl, List.length_cons, Int.cast_ofNat_Int, evalK_pick, pickV_b, i0, putD_cp, evalK_fieldAddr, faV_cpc, List.getElem?_cons_zero, cpV_i, loadV_cp_i, hkw, bin_beql, beq_self_eq_true, evalK_buildSlice, dcells_i, List.reduceReplicate, Nat.reduceLT, fillD_cons, List.set_cons_zero, fillD_nil, wfs_cons, one_i, wf_one, wfs_nil, slO_some, putD_osl, evalK_text, readV_osl, hbt, a2, ht, runOpsD_nil, exL_ret, finC_ret, resultVs_cons, resultV_t, ownV_d, resultVs_nil, consO_some, leaveC_1]
      all_goals (first | done | rfl | (trace_state; sorry))
    · rw [if_neg hm] at h2
      rw [decide_eq_false hm] at hkw
      simp only [List.length_nil] at hkw
      simp only [f_waferlaw11_ScanKeys, f_waferlaw11_ScanKeys_R1, argEnv_cons, Nat.zero_add, Nat.reduceAdd, argEnv_nil, List.length_nil, exL_seq, exL_ops, runOps_n, evalK_mov, rd_c, spent_c, opC_ok, put_d, runOps_nil, thenC_nrm, evalK_call, List.map_nil, allLeave_nil, eCall_f, hk, callC_some, spentAll_nil, hz0, evalK_un, rd_t, get_eq, readV_d, un_not, Bool.not_true, Option.map_some, okS_some, exL_cond, condC_b, Bool.false_eq_true, ↓reduceIte, exL_skip, hkc, rd_mv, takeV_d, spent_mv, hks, put_slV, takeV_slV, Nat.reduceEqDiff, get_ne, spent_t, evalK_lenL, lenL_slD, hL33, readV_slV, evalK_bin, isC_t, Bool.or_self, bin_neq, decide_true, exL_block, f_waferlaw11_ScanKeys_l0_in, reduceCtorEq, keepV_d, keepV_slV, hl, evalK_conv, hcv, z33, bin_rem, hmr, evalK_indexAddr, hia, put_cp, evalK_load, readV_cp, loadV_cp_s, isC_c, Bool.or_true, a1, evalK_lenS, lenS_s, bin_sub, hw, evalK_sliceS, optInt_none, optInt_some, oInt_i, cut2_some, hcut, List.map_cons, allLeave_cons, leaves_d, Bool.and_self, h1, spentAll_cons, put_tup, readV_tup, evalK_extract, extV_0, copy_d, extV_1, h2, exL_opsD, runOpsD_n, opDC_same, putD_d, putC_some, lenL_nil, bin_add, Int.reduceAdd, e00', opDC_serial, bin_eql, runOpsD_g, wantG_bt, wantDC_b, lenL_sl, List.length_cons, Int.cast_ofNat_Int, evalK_pick, pickV_b, i0, putD_cp, evalK_fieldAddr, faV_cpc, List.getElem?_cons_zero, cpV_i, loadV_cp_i, Int.reduceEq, decide_false, hkw, bin_beql, beq_self_eq_true, evalK_buildSlice, dcells_i, List.reduceReplicate, Nat.reduceLT, fillD_cons, List.set_cons_zero, fillD_nil, wfs_cons, one_i, wf_one, wfs_nil, slO_some, putD_osl, evalK_text, readV_osl, hbt, a2, ht, runOpsD_nil, exL_ret, finC_ret, resultVs_cons, resultV_t, ownV_d, resultVs_nil, consO_some, leaveC_1]
      all_goals (first | done | rfl | (trace_state; sorry))
  | false =>
    obtain ⟨lo2, _, h2⟩ := fin (s ++ [120]) (bytes_app g3 (by decide)) (by simp only [List.length_append, List.length_cons, List.length_nil]; omega) q2
    have hkw := keyword_call (t := s ++ [120]) (H := [])
    generalize s ++ [120] = t at *
    by_cases hm : t ∈ KW
    · rw [if_pos hm] at h2
      rw [decide_eq_true hm] at hkw
      simp only [List.length_nil] at hkw
      simp only [f_waferlaw11_ScanKeys, f_waferlaw11_ScanKeys_R1, argEnv_cons, Nat.zero_add, Nat.reduceAdd, argEnv_nil, List.length_nil, exL_seq, exL_ops, runOps_n, evalK_mov, rd_c, spent_c, opC_ok, put_d, runOps_nil, thenC_nrm, evalK_call, List.map_nil, allLeave_nil, eCall_f, hk, callC_some, spentAll_nil, hz0, evalK_un, rd_t, get_eq, readV_d, un_not, Bool.not_true, Option.map_some, okS_some, exL_cond, condC_b, Bool.false_eq_true, ↓reduceIte, exL_skip, hkc, rd_mv, takeV_d, spent_mv, hks, put_slV, takeV_slV, Nat.reduceEqDiff, get_ne, spent_t, evalK_lenL, lenL_slD, hL33, readV_slV, evalK_bin, isC_t, Bool.or_self, bin_neq, decide_true, exL_block, f_waferlaw11_ScanKeys_l0_in, reduceCtorEq, keepV_d, keepV_slV, hl, evalK_conv, hcv, z33, bin_rem, hmr, evalK_indexAddr, hia, put_cp, evalK_load, readV_cp, loadV_cp_s, isC_c, Bool.or_true, a1, List.map_cons, allLeave_cons, leaves_d, Bool.and_self, h1, spentAll_cons, put_tup, readV_tup, evalK_extract, extV_0, copy_d, extV_1, h2, exL_opsD, runOpsD_n, opDC_same, putD_d, putC_some, lenL_nil, bin_add, Int.reduceAdd, e00', opDC_serial, bin_eql, runOpsD_g, wantG_bt, wantDC_b, lenL_sl, List.length_cons, Int.cast_ofNat_Int, evalK_pick, pickV_b, i0, putD_cp, evalK_fieldAddr, faV_cpc, List.getElem?_cons_zero, cpV_i, loadV_cp_i, hkw, bin_beql, beq_self_eq_true, evalK_buildSlice, dcells_i, List.reduceReplicate, Nat.reduceLT, fillD_cons, List.set_cons_zero, fillD_nil, wfs_cons, one_i, wf_one, wfs_nil, slO_some, putD_osl, evalK_text, readV_osl, hbt, a2, ht, runOpsD_nil, exL_ret, finC_ret, resultVs_cons, resultV_t, ownV_d, resultVs_nil, consO_some, leaveC_1]
      all_goals (first | done | rfl | (trace_state; sorry))
    · rw [if_neg hm] at h2
      rw [decide_eq_false hm] at hkw
      simp only [List.length_nil] at hkw
      simp only [f_waferlaw11_ScanKeys, f_waferlaw11_ScanKeys_R1, argEnv_cons, Nat.zero_add, Nat.reduceAdd, argEnv_nil, List.length_nil, exL_seq, exL_ops, runOps_n, evalK_mov, rd_c, spent_c, opC_ok, put_d, runOps_nil, thenC_nrm, evalK_call, List.map_nil, allLeave_nil, eCall_f, hk, callC_some, spentAll_nil, hz0, evalK_un, rd_t, get_eq, readV_d, un_not, Bool.not_true, Option.map_some, okS_some, exL_cond, condC_b, Bool.false_eq_true, ↓reduceIte, exL_skip, hkc, rd_mv, takeV_d, spent_mv, hks, put_slV, takeV_slV, Nat.reduceEqDiff, get_ne, spent_t, evalK_lenL, lenL_slD, hL33, readV_slV, evalK_bin, isC_t, Bool.or_self, bin_neq, decide_true, exL_block, f_waferlaw11_ScanKeys_l0_in, reduceCtorEq, keepV_d, keepV_slV, hl, evalK_conv, hcv, z33, bin_rem, hmr, evalK_indexAddr, hia, put_cp, evalK_load, readV_cp, loadV_cp_s, isC_c, Bool.or_true, a1, List.map_cons, allLeave_cons, leaves_d, Bool.and_self, h1, spentAll_cons, put_tup, readV_tup, evalK_extract, extV_0, copy_d, extV_1, h2, exL_opsD, runOpsD_n, opDC_same, putD_d, putC_some, lenL_nil, bin_add, Int.reduceAdd, e00', opDC_serial, bin_eql, runOpsD_g, wantG_bt, wantDC_b, lenL_sl, List.length_cons, Int.cast_ofNat_Int, evalK_pick, pickV_b, i0, putD_cp, evalK_fieldAddr, faV_cpc, List.getElem?_cons_zero, cpV_i, loadV_cp_i, Int.reduceEq, decide_false, hkw, bin_beql, beq_self_eq_true, evalK_buildSlice, dcells_i, List.reduceReplicate, Nat.reduceLT, fillD_cons, List.set_cons_zero, fillD_nil, wfs_cons, one_i, wf_one, wfs_nil, slO_some, putD_osl, evalK_text, readV_osl, hbt, a2, ht, runOpsD_nil, exL_ret, finC_ret, resultVs_cons, resultV_t, ownV_d, resultVs_nil, consO_some, leaveC_1]
      all_goals (first | done | rfl | (trace_state; sorry))
end W

