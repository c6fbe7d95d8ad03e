/-
  TypesChain: of records that extend one another, each extends just those ahead of it, for every three bytes.: part 14 of what the proof rests on (a value semantics for a part of the language, sound against the model; the walks).
-/
import Derived.WalkKit
import Derived.ProofKit
import Derived.OpenShut
import Derived.Carry
import Derived.ChangeSame
import Derived.RowKit
import Derived.Lib.LaidTab
import Derived.Test.YtbdngljblileeaaDoorW13
/- Walking on: interfaces, panics, function values, deferred closures. -/
set_option linter.unusedSimpArgs false
set_option linter.unusedVariables false
namespace W
open Go (IntKind BinOp UnOp)
variable {pg : Pg} {st : St} {call : Call}
def mkIfcV (t : Nat) (v : V) (st : St) : Option Or := if v.ok then some ⟨false, true, .ifc t v, st⟩ else none
theorem evalK_mkIfc {t : Nat} {x : O} : evalK call (.mkIfc t x) st = mkIfcV t (rd st.env x) st := (rfl)
theorem mkIfcV_d {t : Nat} {x : D} : mkIfcV t (.d x) st = some ⟨false, true, .ifc t (.d x), st⟩ := (rfl)
def panV (v : V) (st : St) : Option Or := match v with | .ifc t y => some ⟨true, true, .ifc t y, st⟩ | _ => none
theorem evalK_panic {x : O} : evalK call (.panic x) st = panV (rd st.env x) st := (rfl)
theorem panV_ifc {t : Nat} {y : V} : panV (.ifc t y) st = some ⟨true, true, .ifc t y, st⟩ := (rfl)
theorem ifc_neq {t : Nat} {x : V} : binV .neq .iface true (.ifc t x) (.d .ni) = some (.d (.b true)) := (rfl)
theorem ifc_eql {t : Nat} {x : V} : binV .eql .iface true (.ifc t x) (.d .ni) = some (.d (.b false)) := (rfl)
theorem ni_neq : binV .neq .iface true (.d .ni) (.d .ni) = some (.d (.b false)) := (rfl)
theorem ni_eql : binV .eql .iface true (.d .ni) (.d .ni) = some (.d (.b true)) := (rfl)
noncomputable def callV (pg : Pg) (v : V) (args : List O) (st : St) : Option Or :=
  match v with
  | .fn i first cap =>
    let vs := first ++ args.map (rd st.env) ++ cap
    if V.allLeave vs then (match callL pg i vs st.H with
      | some r => some ⟨r.pan, r.same, r.v, { env := spentAll args st.env, H := r.H, lo := min st.lo r.lo }⟩
      | none => none) else none
  | _ => none
theorem eCall_t {n : Nat} {args : List O} : eCall (callL pg) (.t n) args st = callV pg (rd st.env (.t n)) args st := (rfl)
theorem callV_fn {i : Nat} {args : List O} (hl : V.allLeave (args.map (rd st.env)) = true) : callV pg (.fn i [] []) args st = callC (callL pg i (args.map (rd st.env)) st.H) args st := by
  have : ([] : List V) ++ args.map (rd st.env) ++ [] = args.map (rd st.env) := by simp
  simp only [callV, this, hl, if_true, callC]
  all_goals rfl
theorem leaves_ifcd {t : Nat} {x : D} : V.leaves (.ifc t (.d x)) = true := (rfl)
theorem leaves_ifcu {t : Nat} : V.leaves (.ifc t .undef) = true := (rfl)
def mkFnV (f : Nat) (a b : List V) (st : St) : Option Or := if V.ok.oks a && V.ok.oks b then some ⟨false, true, .fn f a b, st⟩ else none
theorem evalK_mkFn {f : Nat} {a b : List O} : evalK call (.mkFn f a b) st = mkFnV f (a.map (rd st.env)) (b.map (rd st.env)) st := (rfl)
theorem mkFnV_ok {f : Nat} {a b : List V} (h : (V.ok.oks a && V.ok.oks b) = true) : mkFnV f a b st = some ⟨false, true, .fn f a b, st⟩ := by simp [mkFnV, h]
theorem copy_fn {f : Nat} {a b : List V} : copy (.fn f a b) = .fn f a b := (rfl)
theorem killV_ifcd {s t : Nat} {x : D} : killV s (.ifc t (.d x)) = .ifc t (.d x) := (rfl)
theorem killV_ifcu {s t : Nat} : killV s (.ifc t .undef) = .ifc t .undef := (rfl)
theorem noL_ifcd {n t : Nat} {x : D} : noL n (.ifc t (.d x)) = true := (rfl)
theorem noL_ifcu {n t : Nat} : noL n (.ifc t .undef) = true := (rfl)
theorem putD_fn {bx : Bool} {no : List Nat} {n f : Nat} {a b : List V} : putD bx no (some n) (.fn f a b) st = some ⟨(n, .fn f a b) :: st.env, st.H, st.lo⟩ := by cases bx <;> rfl
theorem putD_ifc {bx : Bool} {no : List Nat} {n f : Nat} {a : V} : putD bx no (some n) (.ifc f a) st = some ⟨(n, .ifc f a) :: st.env, st.H, st.lo⟩ := by cases bx <;> rfl
theorem leave_sc {H : List Obj} {pan : Bool} {v : V} {e : Env} {lo id : Nat} {o : Obj} (hv : v.leaves = true) (hr : v.ref = 0) (hs : ∀ G, settle H.length G v = v) (hh : setAt H id o = H ∨ lo ≤ id) (hid : id < H.length) :
    ∃ sm, leave H pan v ⟨e, setAt H id o, lo⟩ = some ⟨pan, sm, v, setAt H id o, lo⟩ := by
  by_cases hl : H.length ≤ lo
  · have he : setAt H id o = H := by
      rcases hh with h | h
      · exact h
      · omega
    rw [he]
    exact ⟨true, leave_same hv (by omega) hl (hs _)⟩
  · exact ⟨false, leave_new hv (.inr (by simp only; omega)) (hs _)⟩
theorem copy_ifc {t : Nat} {x : V} : copy (.ifc t x) = .ifc t x := (rfl)
theorem copy1_ifc {t : Nat} {x : V} : copy1 (.ifc t x) = .ifc t x := (rfl)
theorem ok_undef : V.ok .undef = true := (rfl)
end W

set_option linter.unusedSimpArgs false
set_option linter.unusedVariables false
namespace W
open Go (IntKind BinOp UnOp)
set_option maxRecDepth 20000
theorem fields_fact {k x : Nat} (hk : k ≤ 12) (hx : x < k) : ∃ lo, callL pg 10 [.d (.s (nm x)), .map 0] [.map (es k)] = some ⟨false, true, .tup [.d (.sl (fl (x + 1))), .d (.b true)], [.map (es k)], lo⟩ := by
  have fin : ∀ l : List Nat, (l.all fun k => (List.range k).all fun x => isTup (callJ pg 2000 10 [.d (.s (nm x)), .map 0] [.map (es k)]) [.sl (fl (x + 1)), .b true]) = true → k ∈ l →
      ∃ lo, callL pg 10 [.d (.s (nm x)), .map 0] [.map (es k)] = some ⟨false, true, .tup [.d (.sl (fl (x + 1))), .d (.b true)], [.map (es k)], lo⟩ := fun l hl hm =>
    isTup_call ext_lo (List.all_eq_true.1 (List.all_eq_true.1 hl k hm) x (List.mem_range.2 hx))
  by_cases h1 : k < 11
  · exact fin _ fields_run1 (List.mem_range.2 h1)
  · exact fin _ fields_run2 (by have : k = 11 ∨ k = 12 := by omega
                                rcases this with rfl | rfl <;> simp)
theorem words_fact {k x : Nat} (hk : k ≤ 12) (hx : x < k) : ∃ lo, callL pg 17 [.d (.agg [.i .i64 8, .i .i64 0, .s (nm x), .nil]), .map 0] [.map (es k)] = some ⟨false, true, .tup [.d (.i .i64 (((x + 1) * (x + 2) / 2 : Nat) : Int)), .d (.b true)], [.map (es k)], lo⟩ := by
  have fin : ∀ l : List Nat, (l.all fun k => (List.range k).all fun x => isTup (callJ pg 2000 17 [.d (.agg [.i .i64 8, .i .i64 0, .s (nm x), .nil]), .map 0] [.map (es k)]) [.i .i64 (((x + 1) * (x + 2) / 2 : Nat) : Int), .b true]) = true → k ∈ l →
      ∃ lo, callL pg 17 [.d (.agg [.i .i64 8, .i .i64 0, .s (nm x), .nil]), .map 0] [.map (es k)] = some ⟨false, true, .tup [.d (.i .i64 (((x + 1) * (x + 2) / 2 : Nat) : Int)), .d (.b true)], [.map (es k)], lo⟩ := fun l hl hm =>
    isTup_call ext_lo (List.all_eq_true.1 (List.all_eq_true.1 hl k hm) x (List.mem_range.2 hx))
  by_cases h1 : k < 10
  · exact fin _ words_run1 (List.mem_range.2 h1)
  · by_cases h2 : k < 12
    · exact fin _ words_run2 (by have : k = 10 ∨ k = 11 := by omega
                                 rcases this with rfl | rfl <;> simp)
    · obtain rfl : k = 12 := by omega
      exact fin _ words_run3 (by simp)
theorem ext_fact {k x y : Nat} (hk : k ≤ 12) (hx : x < k) (hy : y < k) : ∃ lo, callL pg 13 [.d (.s (nm x)), .d (.s (nm y)), .map 0] [.map (es k)] = some ⟨false, true, .d (.b (decide (y ≤ x))), [.map (es k)], lo⟩ := by
  have fin : ∀ l : List Nat, (l.all fun k => (List.range k).all fun x => (List.range k).all fun y => isD (callJ pg 2000 13 [.d (.s (nm x)), .d (.s (nm y)), .map 0] [.map (es k)]) (.b (decide (y ≤ x)))) = true → k ∈ l →
      ∃ lo, callL pg 13 [.d (.s (nm x)), .d (.s (nm y)), .map 0] [.map (es k)] = some ⟨false, true, .d (.b (decide (y ≤ x))), [.map (es k)], lo⟩ := by
    intro l hl hm
    have h := List.all_eq_true.1 hl k hm
    have h := List.all_eq_true.1 h x (List.mem_range.2 hx)
    exact isD_call ext_lo (List.all_eq_true.1 h y (List.mem_range.2 hy))
  by_cases h1 : k < 9
  · exact fin _ ext_run1 (List.mem_range.2 h1)
  · by_cases h2 : k < 11
    · exact fin _ ext_run2 (by have : k = 9 ∨ k = 10 := by omega
                               rcases this with rfl | rfl <;> simp)
    · exact fin _ ext_run3 (by have : k = 11 ∨ k = 12 := by omega
                               rcases this with rfl | rfl <;> simp)
theorem keySet_new {k : D} {x : V} : ∀ l : List (D × V), (∀ p ∈ l, k.same p.1 = some false) → keySet k x l = some (l ++ [(k, x)])
  | [], _ => rfl
  | (k', v) :: l, h => by
    have h1 := h (k', v) (by simp)
    simp only at h1
    simp only [keySet, h1, keySet_new l (fun p hp => h p (by simp [hp])), List.cons_append]
theorem es_keys : ∀ (i : Nat) (p : D × V), p ∈ es i → ∃ j, j < i ∧ p.1 = .s (nm j)
  | 0, p, h => by cases h
  | i + 1, p, h => by
    simp only [es, List.mem_append, List.mem_cons, List.not_mem_nil, or_false] at h
    rcases h with h | rfl
    · obtain ⟨j, h1, h2⟩ := es_keys i p h
      exact ⟨j, by omega, h2⟩
    · exact ⟨i, by omega, rfl⟩
theorem es_set (i : Nat) : keySet (.s (nm i)) (.d (rcD i)) (es i) = some (es (i + 1)) := by
  rw [keySet_new]
  · rfl
  · intro p hp
    obtain ⟨j, h1, h2⟩ := es_keys i p hp
    rw [h2]
    have : eqT (nm i) (nm j) = false := by
      rw [eqT_d]
      simp only [nm, decide_eq_false_iff_not, List.cons.injEq, and_true, true_and]
      omega
    simp only [D.same, this]
theorem txt1 {i : Nat} (hi : i < 12) {H : List Obj} : textV (.d (.sl [.i .u8 ((97 + i : Nat) : Int)])) H = some (.d (.s [97 + i])) := by
  have : bytesOf [D.i .u8 ((97 + i : Nat) : Int)] = some [97 + i] := bytesOf_map (t := [97 + i]) (by simp; omega)
  simp only [textV, this]; rfl
theorem add2 {a b : List Nat} (h : a.length + b.length ≤ 1000) {c : Bool} : binV .add .num c (.d (.s a)) (.d (.s b)) = some (.d (.s (a ++ b))) := bin_sadd (by omega)
theorem chain_loop {a b : D} {k : Nat} (hk : k ≤ 12) :
    ∀ (m i : Nat), k - i = m → i ≤ k → blockC 0 [1, 2, 7, 8] (f_waferlaw12_TypesChain_l0 pg (.d a) (.d b) (.d (.i .i64 (k : Nat))) (.map 0) (.d (.i .i64 (i : Nat))) [.map (es i)] 0) = some (.nrm, ⟨[(1, .d a), (2, .d b), (7, .d (.i .i64 (k : Nat))), (8, .map 0)], [.map (es k)], 0⟩) := by
  have hz0 : ∀ n : Nat, min 0 n = 0 := Nat.zero_min
  have hz1 : ∀ n : Nat, min n 0 = 0 := Nat.min_zero
  intro m
  induction m with
  | zero =>
    intro i hm hi
    obtain rfl : i = k := by omega
    have h1 : ((i : Int) < (i : Int)) = False := by simp
    rw [f_waferlaw12_TypesChain_l0_eq]
    simp only [f_waferlaw12_TypesChain_B0, h1, exL_skip, exL_ops, exL_opsD, exL_seq, exL_cond, exL_block, exL_exit, exL_ret, thenC_nrm, thenC_exit, thenC_ret, thenC_pan, thenC_none, thenC_ite, condC_b, blockC_nrm, blockC_exit, blockC_ret, blockC_pan, blockC_none, blockC_ite, restrict_nil, restrict_cons, runOps_nil, runOps_n, wantG_bt, wantG_bf, wantG_t, runOps_g, runOpsD_nil, runOpsD_n, runOpsD_g, wantC_b, wantDC_b, opC_ok, opC_pan, opC_none, opC_ite, opDC_same, opDC_serial, opDC_none, opDC_ite, putC_some, get_eq, get_ne, get_nil, finC_ite, finC_none, finC_ret, finC_nrm, finC_pan, leaveC_1, leaveC_0, leaveC_2, settle_d, settle_osl, settle_ptr, settle_map, settle_tup, settle_fn, settle_ifc, settle_agg, argEnv_cons, argEnv_nil, resultVs_nil, consO_some, resultVs_cons, resultV_t, ownV_d, ownV_ptr, ownV_map, ownV_osl, ownV_rs, ownV_fn, ownV_ifc, rd_t, rd_c, rd_f, rd_g, rd_mv, readV_d, readV_osl, readV_ptr, readV_lp, readV_box, readV_cp, readV_rs, readV_map, readV_fn, readV_ifc, readV_tup, readV_agg, takeV_d, takeV_osl, copy_d, copy_osl, copy_ptr, copy_map, copy1_d, copy1_osl, copy1_ptr, copy1_map, keepV_d, keepV_osl, keepV_ptr, keepV_lp, keepV_box, keepV_map, keepV_cp, keepV_rs, keepV_fn, keepV_ifc, keepV_tup, keepV_agg, keepV_undef, spent_t, spent_c, spent_f, spent_g, spent_mv, spentAll_nil, spentAll_cons, put_none, put_d, put_osl, put_ptr, put_lp, put_cp, put_rs, put_map, put_fn, put_ifc, put_tup, put_agg, put_undef, put_box, putD_d, putD_osl, putD_ptr, putD_cp, putD_map, putD_tup, putD_none, eqI_d, ble_d, beq_d, leI_d, eqT_d, evalK_mov, evalK_bin, okS_some, okS_none, okS_ite, bin_add, bin_sub, bin_mul, bin_quo, bin_rem, bin_eql, bin_neq, bin_lss, bin_leq, bin_gtr, bin_geq, bin_seql, bin_sneq, bin_sadd, bin_beql, bin_bneq, evalK_un, un_not, un_neg, evalK_pick, pickV_t, pickV_f, pickV_b, evalK_conv, evalK_lenS, evalK_lenL, lenS_s, lenL_nil, lenL_sl, lenL_rs, evalK_nilCheck, evalK_call, eCall_f, callC_some, callC_none, callC_ite, allLeave_nil, allLeave_cons, leaves_d, leaves_osl, leaves_ptr, leaves_map, leaves_rs, leaves_tup, leaves_fn, leaves_ifc, oks_nil, oks_cons, ok_d, ok_ptr, ok_map, ok_fn, ok_ifc, ok_rs, evalK_extract, extV_0, extV_1, extV_2, extV_3, ref_d, ref_osl, ref_ptr, ref_map, ref_rs, ref_tup, ref_ifc, ref_fn, refs_nil, refs_cons, evalK_fieldAddr, faV_ptr, faV_lp, faV_cp1, faV_cpA, one_b, one_i, one_s, one_sl, one_nil, evalK_load, loadV_ptr, cellV_1, cellV_A, loadV_lp, boxV_1, boxV_A, loadV_cp_i, loadV_cp_b, loadV_cp_s, loadV_cp_sl, loadV_cp_nil, loadV_cp_agg, copy1_map', copy1_fn, copy1_rs, evalK_loadMv, setAt_get, setAt_ne, setAt_setAt, setAt_length, evalK_store, storeV_P, storeP_cells, storePR_some, storeV_lp, storeB_box, storeR_some, setCells_1, cells_d1, cells_agg, cells_aggV, cells_ptr, cells_map, cells_osl, cells_rs, cells_fn, ones_nil, ones_cons, vone_d, vone_osl, vone_ptr, vone_map, vone_rs, vone_fn, evalK_alloc, evalK_allocL, evalK_box, boxN_f, boxN_t, evalK_mkMap, evalK_buildRow, rowR_some, evalK_assertOk, assertV_ifc, push_get, push_get1, push_get2, evalK_build, fillC_nil, fillC_1, fillC_A, aggO_some, mkAgg_eq, aggV_some, aggV_none, consD_some, consD_none, allD_nil, allD_d, allD_osl, allD_ptr, allD_map, allD_fn, allD_rs, allD_dmap, evalK_buildSlice, fillD_nil, fillD_cons, slO_some, mkSl_cons, mkSl_nil, wfs_nil, wfs_cons, wf_one, wf_agg, dones_nil, dones_cons, dcells_i, dcells_b, dcells_s, dcells_sl, dcells_nil, dcells_agg, evalK_append, appO_some, app_nil_nil, headIs_cons, headIs_nil, app_nil_cons, app_nil_sl0, app_osl, app_osl_nil, app_osl_s, evalK_indexAddr, iaV_arr, iaV_arrL, iaV_rs, evalK_index, optInt_none, optInt_some, oInt_i, evalK_sliceS, evalK_sliceL, cut2_some, evalK_sliceA, evalK_sliceM, cut3_some, evalK_text, textV_nil, textV_sl, bytesO_some, evalK_bytes, evalK_movS, evalK_field, fieldV_d, part_1, part_A, evalK_lookup, lookV_sE, lookV_iE, lookE_map, lookV_nm, findV_t, findV_f, findV_t0, findV_f0, evalK_mapUpdate, updV_sE, updV_iE, updE_map, setO_some, evalK_max, evalK_min, maxD_2, minD_2, eql_np, neq_np, copy1_slV, copy_slV, readV_slV, takeV_slV, keepV_slV, put_slV, vone_slV, cells_slV, leaves_slV, ref_slV, ownV_slV, ownV_slVt, one_slD, lenL_slD, loadV_cp_slD, settle_slV, ownV_oslT, ownV_tup, isC_t, isC_c, isC_mv, isC_f, eql_nil_nil, eql_nil_sl, neq_nil_nil, neq_nil_sl, eql_nm, bin_shl, bin_shr, bin_or, bin_and, bin_xor, killLp_nil, killLp_cons, killV_d, killV_osl, killV_ptr, killV_map, killV_box, killV_cp, killV_agg, killV_tup, killV_fn, killV_ifc, killV_undef, killV_lp, killV_rs, killV_slV, setCells_all, setCells_2, faV_cpc, cpV_i, cpV_s, cpV_b, cpV_sl, cpV_nil, cpV_slD, resultV_cell, resC_box, resC_ptr, boxK_alloc, boxK_box, putD_bx, boxD_t, putD_lp, lpD_f, hasNat_nil, hasNat_cons, takeV_rs, takeV_ptr, takeV_map, takeV_cp, takeV_lp, takeV_fn, takeV_ifc, takeV_agg, takeV_tup, putD_rs, putD_slV, noLp_nil, noLp_c, noL_d, noL_osl, noL_ptr, noL_map, noL_box, noL_cp, noL_agg, noL_tup, noL_fn, noL_ifc, noL_undef, noL_rs, noL_lp, noL_slV, keySet_nil, setAt_one, evalK_mkIfc, mkIfcV_d, evalK_panic, panV_ifc, ifc_neq, ifc_eql, ni_neq, ni_eql, eCall_t, callV_fn, leaves_ifcd, leaves_ifcu, evalK_mkFn, mkFnV_ok, copy_fn, killV_ifcd, killV_ifcu, noL_ifcd, noL_ifcu, putD_fn, putD_ifc, copy_ifc, copy1_ifc, ok_undef, eq_self, Int.cast_ofNat_Int, beq_true, beq_false, Nat.max_self, Nat.zero_max, Nat.max_zero, List.reduceReplicate, List.getElem?_cons_zero, List.getElem?_cons_succ, Nat.add_zero, List.set_cons_zero, List.set_cons_succ, ne_eq, Nat.reduceEqDiff, not_false_eq_true, not_true_eq_false, reduceCtorEq, Bool.true_and, Bool.and_true, Bool.false_and, Bool.and_false, Bool.not_true, Bool.not_false, Bool.false_or, Bool.true_or, Bool.or_false, Bool.or_true, ↓reduceIte, Nat.reduceAdd, Nat.reduceSub, Nat.reduceMul, decide_true, decide_false, decide_eq_true_eq, Bool.not_eq_true', decide_eq_false_iff_not, Option.map_some, Option.map_none, List.map_cons, List.map_nil, Nat.succ_eq_add_one, Nat.zero_add, List.cons_append, List.nil_append, List.append_nil, Bool.false_eq_true, Bool.true_eq_false, beq_self_eq_true, Int.reduceEq, Int.reduceNe, Int.reduceLT, Int.reduceLE, Int.reduceNeg, Int.reduceAdd, Int.reduceSub, Int.reduceMul, List.length_cons, List.length_nil, Bool.and_self, Bool.or_self, Int.not_lt, Int.not_le, Nat.reduceLT, Nat.reduceLeDiff, Nat.min_self, List.length_append, Nat.reduceBEq, List.drop_zero, List.drop_succ_cons, List.take_succ_cons, List.take_zero]
    all_goals rfl
  | succ m ih =>
    intro i hm hi
    have h1 : ((i : Int) < (k : Int)) = True := by rw [eq_iff_iff]; simp; omega
    have hw : wr .i64 ((i : Int) + 1) = ((i + 1 : Nat) : Int) := by rw [wr_i64 (by omega) (by omega)]; omega
    have hc : wr .u8 (i : Int) = (i : Int) := wr_u8 (by omega) (by omega)
    have ha : wr .u8 (97 + (i : Int)) = ((97 + i : Nat) : Int) := by rw [wr_u8 (by omega) (by omega)]; omega
    have ht := fun (H : List Obj) => txt1 (i := i) (by omega) (H := H)
    have s1 : ∀ c, binV .add .num c (.d (.s [102])) (.d (.s [97 + i])) = some (.d (.s [102, 97 + i])) := fun c => add2 (by simp)
    have s2 : ∀ c, binV .add .num c (.d (.s [77, 46])) (.d (.s [97 + i])) = some (.d (.s (nm i))) := fun c => add2 (by simp)
    have b1 := fun (H : List Obj) => basic_call (n := 1) (H := H)
    have a1 := fun (H : List Obj) => arr_call (n := ((i + 1 : Nat) : Int)) (f := 1) (m := 0) (s := []) (o := .nil) (.inl rfl) (H := H)
    have hset := es_set i
    have ih' := ih (i + 1) (by omega) (by omega)
    rw [f_waferlaw12_TypesChain_l0_eq]
    by_cases h0 : i = 0
    · subst h0
      have k1 : ((0 : Int) < (k : Int)) = True := h1
      have k2 : wr .i64 (0 + 1) = 1 := rfl
      have k2' : wr .i64 1 = 1 := rfl
      have k3 : wr .u8 0 = 0 := rfl
      have k4 : wr .u8 (97 + 0) = 97 := rfl
      have k4' : wr .u8 97 = 97 := rfl
      have k5 : ∀ H : List Obj, textV (.d (.sl [.i .u8 97])) H = some (.d (.s [97])) := fun H => rfl
      have k6 : ∀ c, binV .add .num c (.d (.s [102])) (.d (.s [97])) = some (.d (.s [102, 97])) := fun c => add2 (by simp)
      have k7 : ∀ c, binV .add .num c (.d (.s [77, 46])) (.d (.s [97])) = some (.d (.s [77, 46, 97])) := fun c => add2 (by simp)
      have k8 := fun (H : List Obj) => arr_call (n := 1) (f := 1) (m := 0) (s := []) (o := .nil) (.inl rfl) (H := H)
      have k9 : keySet (.s [77, 46, 97]) (.d (.agg [.s [82], .b false, .s [], .sl [.agg [.s [102, 97], .b false, .i .i64 7, .i .i64 1, .s [], .sl [.agg [.i .i64 1, .i .i64 0, .s [], .nil]]]]])) (es 0) = some (es 1) := hset
      have ih0 : blockC 0 [1, 2, 7, 8] (f_waferlaw12_TypesChain_l0 pg (.d a) (.d b) (.d (.i .i64 (k : Nat))) (.map 0) (.d (.i .i64 1)) [.map (es 1)] 0) = some (.nrm, ⟨[(1, .d a), (2, .d b), (7, .d (.i .i64 (k : Nat))), (8, .map 0)], [.map (es k)], 0⟩) := ih'
      have z0 : ((0 : Nat) : Int) = 0 := rfl
      have g1 : ((0 : Int) < 0) = False := by simp
      rw [z0]
      simp only [f_waferlaw12_TypesChain_B0, k1, k2, k2', k3, k4, k4', k5, k6, k7, b1, k8, k9, g1, hz0, hz1, f_waferlaw12_TypesChain_l0_in, exL_skip, exL_ops, exL_opsD, exL_seq, exL_cond, exL_block, exL_exit, exL_ret, thenC_nrm, thenC_exit, thenC_ret, thenC_pan, thenC_none, thenC_ite, condC_b, blockC_nrm, blockC_exit, blockC_ret, blockC_pan, blockC_none, blockC_ite, restrict_nil, restrict_cons, runOps_nil, runOps_n, wantG_bt, wantG_bf, wantG_t, runOps_g, runOpsD_nil, runOpsD_n, runOpsD_g, wantC_b, wantDC_b, opC_ok, opC_pan, opC_none, opC_ite, opDC_same, opDC_serial, opDC_none, opDC_ite, putC_some, get_eq, get_ne, get_nil, finC_ite, finC_none, finC_ret, finC_nrm, finC_pan, leaveC_1, leaveC_0, leaveC_2, settle_d, settle_osl, settle_ptr, settle_map, settle_tup, settle_fn, settle_ifc, settle_agg, argEnv_cons, argEnv_nil, resultVs_nil, consO_some, resultVs_cons, resultV_t, ownV_d, ownV_ptr, ownV_map, ownV_osl, ownV_rs, ownV_fn, ownV_ifc, rd_t, rd_c, rd_f, rd_g, rd_mv, readV_d, readV_osl, readV_ptr, readV_lp, readV_box, readV_cp, readV_rs, readV_map, readV_fn, readV_ifc, readV_tup, readV_agg, takeV_d, takeV_osl, copy_d, copy_osl, copy_ptr, copy_map, copy1_d, copy1_osl, copy1_ptr, copy1_map, keepV_d, keepV_osl, keepV_ptr, keepV_lp, keepV_box, keepV_map, keepV_cp, keepV_rs, keepV_fn, keepV_ifc, keepV_tup, keepV_agg, keepV_undef, spent_t, spent_c, spent_f, spent_g, spent_mv, spentAll_nil, spentAll_cons, put_none, put_d, put_osl, put_ptr, put_lp, put_cp, put_rs, put_map, put_fn, put_ifc, put_tup, put_agg, put_undef, put_box, putD_d, putD_osl, putD_ptr, putD_cp, putD_map, putD_tup, putD_none, eqI_d, ble_d, beq_d, leI_d, eqT_d, evalK_mov, evalK_bin, okS_some, okS_none, okS_ite, bin_add, bin_sub, bin_mul, bin_quo, bin_rem, bin_eql, bin_neq, bin_lss, bin_leq, bin_gtr, bin_geq, bin_seql, bin_sneq, bin_sadd, bin_beql, bin_bneq, evalK_un, un_not, un_neg, evalK_pick, pickV_t, pickV_f, pickV_b, evalK_conv, evalK_lenS, evalK_lenL, lenS_s, lenL_nil, lenL_sl, lenL_rs, evalK_nilCheck, evalK_call, eCall_f, callC_some, callC_none, callC_ite, allLeave_nil, allLeave_cons, leaves_d, leaves_osl, leaves_ptr, leaves_map, leaves_rs, leaves_tup, leaves_fn, leaves_ifc, oks_nil, oks_cons, ok_d, ok_ptr, ok_map, ok_fn, ok_ifc, ok_rs, evalK_extract, extV_0, extV_1, extV_2, extV_3, ref_d, ref_osl, ref_ptr, ref_map, ref_rs, ref_tup, ref_ifc, ref_fn, refs_nil, refs_cons, evalK_fieldAddr, faV_ptr, faV_lp, faV_cp1, faV_cpA, one_b, one_i, one_s, one_sl, one_nil, evalK_load, loadV_ptr, cellV_1, cellV_A, loadV_lp, boxV_1, boxV_A, loadV_cp_i, loadV_cp_b, loadV_cp_s, loadV_cp_sl, loadV_cp_nil, loadV_cp_agg, copy1_map', copy1_fn, copy1_rs, evalK_loadMv, setAt_get, setAt_ne, setAt_setAt, setAt_length, evalK_store, storeV_P, storeP_cells, storePR_some, storeV_lp, storeB_box, storeR_some, setCells_1, cells_d1, cells_agg, cells_aggV, cells_ptr, cells_map, cells_osl, cells_rs, cells_fn, ones_nil, ones_cons, vone_d, vone_osl, vone_ptr, vone_map, vone_rs, vone_fn, evalK_alloc, evalK_allocL, evalK_box, boxN_f, boxN_t, evalK_mkMap, evalK_buildRow, rowR_some, evalK_assertOk, assertV_ifc, push_get, push_get1, push_get2, evalK_build, fillC_nil, fillC_1, fillC_A, aggO_some, mkAgg_eq, aggV_some, aggV_none, consD_some, consD_none, allD_nil, allD_d, allD_osl, allD_ptr, allD_map, allD_fn, allD_rs, allD_dmap, evalK_buildSlice, fillD_nil, fillD_cons, slO_some, mkSl_cons, mkSl_nil, wfs_nil, wfs_cons, wf_one, wf_agg, dones_nil, dones_cons, dcells_i, dcells_b, dcells_s, dcells_sl, dcells_nil, dcells_agg, evalK_append, appO_some, app_nil_nil, headIs_cons, headIs_nil, app_nil_cons, app_nil_sl0, app_osl, app_osl_nil, app_osl_s, evalK_indexAddr, iaV_arr, iaV_arrL, iaV_rs, evalK_index, optInt_none, optInt_some, oInt_i, evalK_sliceS, evalK_sliceL, cut2_some, evalK_sliceA, evalK_sliceM, cut3_some, evalK_text, textV_nil, textV_sl, bytesO_some, evalK_bytes, evalK_movS, evalK_field, fieldV_d, part_1, part_A, evalK_lookup, lookV_sE, lookV_iE, lookE_map, lookV_nm, findV_t, findV_f, findV_t0, findV_f0, evalK_mapUpdate, updV_sE, updV_iE, updE_map, setO_some, evalK_max, evalK_min, maxD_2, minD_2, eql_np, neq_np, copy1_slV, copy_slV, readV_slV, takeV_slV, keepV_slV, put_slV, vone_slV, cells_slV, leaves_slV, ref_slV, ownV_slV, ownV_slVt, one_slD, lenL_slD, loadV_cp_slD, settle_slV, ownV_oslT, ownV_tup, isC_t, isC_c, isC_mv, isC_f, eql_nil_nil, eql_nil_sl, neq_nil_nil, neq_nil_sl, eql_nm, bin_shl, bin_shr, bin_or, bin_and, bin_xor, killLp_nil, killLp_cons, killV_d, killV_osl, killV_ptr, killV_map, killV_box, killV_cp, killV_agg, killV_tup, killV_fn, killV_ifc, killV_undef, killV_lp, killV_rs, killV_slV, setCells_all, setCells_2, faV_cpc, cpV_i, cpV_s, cpV_b, cpV_sl, cpV_nil, cpV_slD, resultV_cell, resC_box, resC_ptr, boxK_alloc, boxK_box, putD_bx, boxD_t, putD_lp, lpD_f, hasNat_nil, hasNat_cons, takeV_rs, takeV_ptr, takeV_map, takeV_cp, takeV_lp, takeV_fn, takeV_ifc, takeV_agg, takeV_tup, putD_rs, putD_slV, noLp_nil, noLp_c, noL_d, noL_osl, noL_ptr, noL_map, noL_box, noL_cp, noL_agg, noL_tup, noL_fn, noL_ifc, noL_undef, noL_rs, noL_lp, noL_slV, keySet_nil, setAt_one, evalK_mkIfc, mkIfcV_d, evalK_panic, panV_ifc, ifc_neq, ifc_eql, ni_neq, ni_eql, eCall_t, callV_fn, leaves_ifcd, leaves_ifcu, evalK_mkFn, mkFnV_ok, copy_fn, killV_ifcd, killV_ifcu, noL_ifcd, noL_ifcu, putD_fn, putD_ifc, copy_ifc, copy1_ifc, ok_undef, eq_self, Int.cast_ofNat_Int, beq_true, beq_false, Nat.max_self, Nat.zero_max, Nat.max_zero, List.reduceReplicate, List.getElem?_cons_zero, List.getElem?_cons_succ, Nat.add_zero, List.set_cons_zero, List.set_cons_succ, ne_eq, Nat.reduceEqDiff, not_false_eq_true, not_true_eq_false, reduceCtorEq, Bool.true_and, Bool.and_true, Bool.false_and, Bool.and_false, Bool.not_true, Bool.not_false, Bool.false_or, Bool.true_or, Bool.or_false, Bool.or_true, ↓reduceIte, Nat.reduceAdd, Nat.reduceSub, Nat.reduceMul, decide_true, decide_false, decide_eq_true_eq, Bool.not_eq_true', decide_eq_false_iff_not, Option.map_some, Option.map_none, List.map_cons, List.map_nil, Nat.succ_eq_add_one, Nat.zero_add, List.cons_append, List.nil_append, List.append_nil, Bool.false_eq_true, Bool.true_eq_false, beq_self_eq_true, Int.reduceEq, Int.reduceNe, Int.reduceLT, Int.reduceLE, Int.reduceNeg, Int.reduceAdd, Int.reduceSub, Int.reduceMul, List.length_cons, List.length_nil, Bool.and_self, Bool.or_self, Int.not_lt, Int.not_le, Nat.reduceLT, Nat.reduceLeDiff, Nat.min_self, List.length_append, Nat.reduceBEq, List.drop_zero, List.drop_succ_cons, List.take_succ_cons, List.take_zero]
      first | exact ih0 | (trace_state; sorry)
    · have g1 : ((0 : Int) < (i : Int)) = True := by rw [eq_iff_iff]; simp; omega
      have hw2 : wr .i64 ((i : Int) - 1) = ((i - 1 : Nat) : Int) := by rw [wr_i64 (by omega) (by omega)]; omega
      have hc2 : wr .u8 ((i - 1 : Nat) : Int) = ((i - 1 : Nat) : Int) := wr_u8 (by omega) (by omega)
      have ha2 : wr .u8 (97 + ((i - 1 : Nat) : Int)) = ((97 + (i - 1) : Nat) : Int) := by rw [wr_u8 (by omega) (by omega)]; omega
      have ht2 := fun (H : List Obj) => txt1 (i := i - 1) (by omega) (H := H)
      have s3 : ∀ c, binV .add .num c (.d (.s [77, 46])) (.d (.s [97 + (i - 1)])) = some (.d (.s (nm (i - 1)))) := fun c => add2 (by simp)
      simp only [rcD, vrD, if_neg h0] at hset
      simp only [f_waferlaw12_TypesChain_B0, h1, hw, hc, ha, ht, s1, s2, b1, a1, g1, hset, hw2, hc2, ha2, ht2, s3, hz0, hz1, f_waferlaw12_TypesChain_l0_in, exL_skip, exL_ops, exL_opsD, exL_seq, exL_cond, exL_block, exL_exit, exL_ret, thenC_nrm, thenC_exit, thenC_ret, thenC_pan, thenC_none, thenC_ite, condC_b, blockC_nrm, blockC_exit, blockC_ret, blockC_pan, blockC_none, blockC_ite, restrict_nil, restrict_cons, runOps_nil, runOps_n, wantG_bt, wantG_bf, wantG_t, runOps_g, runOpsD_nil, runOpsD_n, runOpsD_g, wantC_b, wantDC_b, opC_ok, opC_pan, opC_none, opC_ite, opDC_same, opDC_serial, opDC_none, opDC_ite, putC_some, get_eq, get_ne, get_nil, finC_ite, finC_none, finC_ret, finC_nrm, finC_pan, leaveC_1, leaveC_0, leaveC_2, settle_d, settle_osl, settle_ptr, settle_map, settle_tup, settle_fn, settle_ifc, settle_agg, argEnv_cons, argEnv_nil, resultVs_nil, consO_some, resultVs_cons, resultV_t, ownV_d, ownV_ptr, ownV_map, ownV_osl, ownV_rs, ownV_fn, ownV_ifc, rd_t, rd_c, rd_f, rd_g, rd_mv, readV_d, readV_osl, readV_ptr, readV_lp, readV_box, readV_cp, readV_rs, readV_map, readV_fn, readV_ifc, readV_tup, readV_agg, takeV_d, takeV_osl, copy_d, copy_osl, copy_ptr, copy_map, copy1_d, copy1_osl, copy1_ptr, copy1_map, keepV_d, keepV_osl, keepV_ptr, keepV_lp, keepV_box, keepV_map, keepV_cp, keepV_rs, keepV_fn, keepV_ifc, keepV_tup, keepV_agg, keepV_undef, spent_t, spent_c, spent_f, spent_g, spent_mv, spentAll_nil, spentAll_cons, put_none, put_d, put_osl, put_ptr, put_lp, put_cp, put_rs, put_map, put_fn, put_ifc, put_tup, put_agg, put_undef, put_box, putD_d, putD_osl, putD_ptr, putD_cp, putD_map, putD_tup, putD_none, eqI_d, ble_d, beq_d, leI_d, eqT_d, evalK_mov, evalK_bin, okS_some, okS_none, okS_ite, bin_add, bin_sub, bin_mul, bin_quo, bin_rem, bin_eql, bin_neq, bin_lss, bin_leq, bin_gtr, bin_geq, bin_seql, bin_sneq, bin_sadd, bin_beql, bin_bneq, evalK_un, un_not, un_neg, evalK_pick, pickV_t, pickV_f, pickV_b, evalK_conv, evalK_lenS, evalK_lenL, lenS_s, lenL_nil, lenL_sl, lenL_rs, evalK_nilCheck, evalK_call, eCall_f, callC_some, callC_none, callC_ite, allLeave_nil, allLeave_cons, leaves_d, leaves_osl, leaves_ptr, leaves_map, leaves_rs, leaves_tup, leaves_fn, leaves_ifc, oks_nil, oks_cons, ok_d, ok_ptr, ok_map, ok_fn, ok_ifc, ok_rs, evalK_extract, extV_0, extV_1, extV_2, extV_3, ref_d, ref_osl, ref_ptr, ref_map, ref_rs, ref_tup, ref_ifc, ref_fn, refs_nil, refs_cons, evalK_fieldAddr, faV_ptr, faV_lp, faV_cp1, faV_cpA, one_b, one_i, one_s, one_sl, one_nil, evalK_load, loadV_ptr, cellV_1, cellV_A, loadV_lp, boxV_1, boxV_A, loadV_cp_i, loadV_cp_b, loadV_cp_s, loadV_cp_sl, loadV_cp_nil, loadV_cp_agg, copy1_map', copy1_fn, copy1_rs, evalK_loadMv, setAt_get, setAt_ne, setAt_setAt, setAt_length, evalK_store, storeV_P, storeP_cells, storePR_some, storeV_lp, storeB_box, storeR_some, setCells_1, cells_d1, cells_agg, cells_aggV, cells_ptr, cells_map, cells_osl, cells_rs, cells_fn, ones_nil, ones_cons, vone_d, vone_osl, vone_ptr, vone_map, vone_rs, vone_fn, evalK_alloc, evalK_allocL, evalK_box, boxN_f, boxN_t, evalK_mkMap, evalK_buildRow, rowR_some, evalK_assertOk, assertV_ifc, push_get, push_get1, push_get2, evalK_build, fillC_nil, fillC_1, fillC_A, aggO_some, mkAgg_eq, aggV_some, aggV_none, consD_some, consD_none, allD_nil, allD_d, allD_osl, allD_ptr, allD_map, allD_fn, allD_rs, allD_dmap, evalK_buildSlice, fillD_nil, fillD_cons, slO_some, mkSl_cons, mkSl_nil, wfs_nil, wfs_cons, wf_one, wf_agg, dones_nil, dones_cons, dcells_i, dcells_b, dcells_s, dcells_sl, dcells_nil, dcells_agg, evalK_append, appO_some, app_nil_nil, headIs_cons, headIs_nil, app_nil_cons, app_nil_sl0, app_osl, app_osl_nil, app_osl_s, evalK_indexAddr, iaV_arr, iaV_arrL, iaV_rs, evalK_index, optInt_none, optInt_some, oInt_i, evalK_sliceS, evalK_sliceL, cut2_some, evalK_sliceA, evalK_sliceM, cut3_some, evalK_text, textV_nil, textV_sl, bytesO_some, evalK_bytes, evalK_movS, evalK_field, fieldV_d, part_1, part_A, evalK_lookup, lookV_sE, lookV_iE, lookE_map, lookV_nm, findV_t, findV_f, findV_t0, findV_f0, evalK_mapUpdate, updV_sE, updV_iE, updE_map, setO_some, evalK_max, evalK_min, maxD_2, minD_2, eql_np, neq_np, copy1_slV, copy_slV, readV_slV, takeV_slV, keepV_slV, put_slV, vone_slV, cells_slV, leaves_slV, ref_slV, ownV_slV, ownV_slVt, one_slD, lenL_slD, loadV_cp_slD, settle_slV, ownV_oslT, ownV_tup, isC_t, isC_c, isC_mv, isC_f, eql_nil_nil, eql_nil_sl, neq_nil_nil, neq_nil_sl, eql_nm, bin_shl, bin_shr, bin_or, bin_and, bin_xor, killLp_nil, killLp_cons, killV_d, killV_osl, killV_ptr, killV_map, killV_box, killV_cp, killV_agg, killV_tup, killV_fn, killV_ifc, killV_undef, killV_lp, killV_rs, killV_slV, setCells_all, setCells_2, faV_cpc, cpV_i, cpV_s, cpV_b, cpV_sl, cpV_nil, cpV_slD, resultV_cell, resC_box, resC_ptr, boxK_alloc, boxK_box, putD_bx, boxD_t, putD_lp, lpD_f, hasNat_nil, hasNat_cons, takeV_rs, takeV_ptr, takeV_map, takeV_cp, takeV_lp, takeV_fn, takeV_ifc, takeV_agg, takeV_tup, putD_rs, putD_slV, noLp_nil, noLp_c, noL_d, noL_osl, noL_ptr, noL_map, noL_box, noL_cp, noL_agg, noL_tup, noL_fn, noL_ifc, noL_undef, noL_rs, noL_lp, noL_slV, keySet_nil, setAt_one, evalK_mkIfc, mkIfcV_d, evalK_panic, panV_ifc, ifc_neq, ifc_eql, ni_neq, ni_eql, eCall_t, callV_fn, leaves_ifcd, leaves_ifcu, evalK_mkFn, mkFnV_ok, copy_fn, killV_ifcd, killV_ifcu, noL_ifcd, noL_ifcu, putD_fn, putD_ifc, copy_ifc, copy1_ifc, ok_undef, eq_self, Int.cast_ofNat_Int, beq_true, beq_false, Nat.max_self, Nat.zero_max, Nat.max_zero, List.reduceReplicate, List.getElem?_cons_zero, List.getElem?_cons_succ, Nat.add_zero, List.set_cons_zero, List.set_cons_succ, ne_eq, Nat.reduceEqDiff, not_false_eq_true, not_true_eq_false, reduceCtorEq, Bool.true_and, Bool.and_true, Bool.false_and, Bool.and_false, Bool.not_true, Bool.not_false, Bool.false_or, Bool.true_or, Bool.or_false, Bool.or_true, ↓reduceIte, Nat.reduceAdd, Nat.reduceSub, Nat.reduceMul, decide_true, decide_false, decide_eq_true_eq, Bool.not_eq_true', decide_eq_false_iff_not, Option.map_some, Option.map_none, List.map_cons, List.map_nil, Nat.succ_eq_add_one, Nat.zero_add, List.cons_append, List.nil_append, List.append_nil, Bool.false_eq_true, Bool.true_eq_false, beq_self_eq_true, Int.reduceEq, Int.reduceNe, Int.reduceLT, Int.reduceLE, Int.reduceNeg, Int.reduceAdd, Int.reduceSub, Int.reduceMul, List.length_cons, List.length_nil, Bool.and_self, Bool.or_self, Int.not_lt, Int.not_le, Nat.reduceLT, Nat.reduceLeDiff, Nat.min_self, List.length_append, Nat.reduceBEq, List.drop_zero, List.drop_succ_cons, List.take_succ_cons, List.take_zero]
      first | exact ih' | (trace_state; sorry)
end W

set_option linter.unusedSimpArgs false
set_option linter.unusedVariables false
namespace W
open Go (IntKind BinOp UnOp)
set_option maxRecDepth 20000
theorem tmod_nat {a m : Nat} : ((a : Int).tmod (m : Int)) = ((a % m : Nat) : Int) := by
  rw [Int.tmod_eq_emod_of_nonneg (by omega)]; exact (Int.natCast_emod a m).symm
theorem fl_len : ∀ n : Nat, (fl n).length = n
  | 0 => rfl
  | n + 1 => by simp [fl, fl_len n]
theorem fl_get : ∀ (n i : Nat), i < n → (fl n)[i]? = some (vrD i)
  | 0, i, h => by omega
  | n + 1, i, h => by
    rw [fl]
    by_cases hi : i < n
    · rw [List.getElem?_append_left (by rw [fl_len]; exact hi)]; exact fl_get n i hi
    · obtain rfl : i = n := by omega
      rw [List.getElem?_append_right (by rw [fl_len]; omega), fl_len]; simp
theorem names_loop2 {x11 x12 : Int} {t13 t14 : List Nat} {n : Nat} (hn : n ≤ 12) {H : List Obj} (hH : H.length = 1) :
    ∀ (m i : Nat), n - i = m → i ≤ n → blockC 2 [8, 11, 12, 13, 14] (f_waferlaw12_TypesChain_l1 pg (.map 0) (.d (.i .i64 x11)) (.d (.i .i64 x12)) (.d (.s t13)) (.d (.s t14)) (.d (.sl (fl n))) (.d (.i .i64 (i : Nat))) H 0) =
      some (.nrm, ⟨[(8, .map 0), (11, .d (.i .i64 x11)), (12, .d (.i .i64 x12)), (13, .d (.s t13)), (14, .d (.s t14))], H, 0⟩) := by
  have hz0 : ∀ n : Nat, min 0 n = 0 := Nat.zero_min
  intro m
  induction m with
  | zero =>
    intro i hm hi
    obtain rfl : i = n := by omega
    have hl : lenV .lenL (.d (.sl (fl i))) H = some (.d (.i .i64 (i : Nat))) := by simp [lenV, fl_len]
    have h1 : ((i : Int) < (i : Int)) = False := by simp
    rw [f_waferlaw12_TypesChain_l1_eq]
    simp only [f_waferlaw12_TypesChain_B1, hl, h1, exL_skip, exL_ops, exL_opsD, exL_seq, exL_cond, exL_block, exL_exit, exL_ret, thenC_nrm, thenC_exit, thenC_ret, thenC_pan, thenC_none, thenC_ite, condC_b, blockC_nrm, blockC_exit, blockC_ret, blockC_pan, blockC_none, blockC_ite, restrict_nil, restrict_cons, runOps_nil, runOps_n, wantG_bt, wantG_bf, wantG_t, runOps_g, runOpsD_nil, runOpsD_n, runOpsD_g, wantC_b, wantDC_b, opC_ok, opC_pan, opC_none, opC_ite, opDC_same, opDC_serial, opDC_none, opDC_ite, putC_some, get_eq, get_ne, get_nil, finC_ite, finC_none, finC_ret, finC_nrm, finC_pan, leaveC_1, leaveC_0, leaveC_2, settle_d, settle_osl, settle_ptr, settle_map, settle_tup, settle_fn, settle_ifc, settle_agg, argEnv_cons, argEnv_nil, resultVs_nil, consO_some, resultVs_cons, resultV_t, ownV_d, ownV_ptr, ownV_map, ownV_osl, ownV_rs, ownV_fn, ownV_ifc, rd_t, rd_c, rd_f, rd_g, rd_mv, readV_d, readV_osl, readV_ptr, readV_lp, readV_box, readV_cp, readV_rs, readV_map, readV_fn, readV_ifc, readV_tup, readV_agg, takeV_d, takeV_osl, copy_d, copy_osl, copy_ptr, copy_map, copy1_d, copy1_osl, copy1_ptr, copy1_map, keepV_d, keepV_osl, keepV_ptr, keepV_lp, keepV_box, keepV_map, keepV_cp, keepV_rs, keepV_fn, keepV_ifc, keepV_tup, keepV_agg, keepV_undef, spent_t, spent_c, spent_f, spent_g, spent_mv, spentAll_nil, spentAll_cons, put_none, put_d, put_osl, put_ptr, put_lp, put_cp, put_rs, put_map, put_fn, put_ifc, put_tup, put_agg, put_undef, put_box, putD_d, putD_osl, putD_ptr, putD_cp, putD_map, putD_tup, putD_none, eqI_d, ble_d, beq_d, leI_d, eqT_d, evalK_mov, evalK_bin, okS_some, okS_none, okS_ite, bin_add, bin_sub, bin_mul, bin_quo, bin_rem, bin_eql, bin_neq, bin_lss, bin_leq, bin_gtr, bin_geq, bin_seql, bin_sneq, bin_sadd, bin_beql, bin_bneq, evalK_un, un_not, un_neg, evalK_pick, pickV_t, pickV_f, pickV_b, evalK_conv, evalK_lenS, evalK_lenL, lenS_s, lenL_nil, lenL_sl, lenL_rs, evalK_nilCheck, evalK_call, eCall_f, callC_some, callC_none, callC_ite, allLeave_nil, allLeave_cons, leaves_d, leaves_osl, leaves_ptr, leaves_map, leaves_rs, leaves_tup, leaves_fn, leaves_ifc, oks_nil, oks_cons, ok_d, ok_ptr, ok_map, ok_fn, ok_ifc, ok_rs, evalK_extract, extV_0, extV_1, extV_2, extV_3, ref_d, ref_osl, ref_ptr, ref_map, ref_rs, ref_tup, ref_ifc, ref_fn, refs_nil, refs_cons, evalK_fieldAddr, faV_ptr, faV_lp, faV_cp1, faV_cpA, one_b, one_i, one_s, one_sl, one_nil, evalK_load, loadV_ptr, cellV_1, cellV_A, loadV_lp, boxV_1, boxV_A, loadV_cp_i, loadV_cp_b, loadV_cp_s, loadV_cp_sl, loadV_cp_nil, loadV_cp_agg, copy1_map', copy1_fn, copy1_rs, evalK_loadMv, setAt_get, setAt_ne, setAt_setAt, setAt_length, evalK_store, storeV_P, storeP_cells, storePR_some, storeV_lp, storeB_box, storeR_some, setCells_1, cells_d1, cells_agg, cells_aggV, cells_ptr, cells_map, cells_osl, cells_rs, cells_fn, ones_nil, ones_cons, vone_d, vone_osl, vone_ptr, vone_map, vone_rs, vone_fn, evalK_alloc, evalK_allocL, evalK_box, boxN_f, boxN_t, evalK_mkMap, evalK_buildRow, rowR_some, evalK_assertOk, assertV_ifc, push_get, push_get1, push_get2, evalK_build, fillC_nil, fillC_1, fillC_A, aggO_some, mkAgg_eq, aggV_some, aggV_none, consD_some, consD_none, allD_nil, allD_d, allD_osl, allD_ptr, allD_map, allD_fn, allD_rs, allD_dmap, evalK_buildSlice, fillD_nil, fillD_cons, slO_some, mkSl_cons, mkSl_nil, wfs_nil, wfs_cons, wf_one, wf_agg, dones_nil, dones_cons, dcells_i, dcells_b, dcells_s, dcells_sl, dcells_nil, dcells_agg, evalK_append, appO_some, app_nil_nil, headIs_cons, headIs_nil, app_nil_cons, app_nil_sl0, app_osl, app_osl_nil, app_osl_s, evalK_indexAddr, iaV_arr, iaV_arrL, iaV_rs, evalK_index, optInt_none, optInt_some, oInt_i, evalK_sliceS, evalK_sliceL, cut2_some, evalK_sliceA, evalK_sliceM, cut3_some, evalK_text, textV_nil, textV_sl, bytesO_some, evalK_bytes, evalK_movS, evalK_field, fieldV_d, part_1, part_A, evalK_lookup, lookV_sE, lookV_iE, lookE_map, lookV_nm, findV_t, findV_f, findV_t0, findV_f0, evalK_mapUpdate, updV_sE, updV_iE, updE_map, setO_some, evalK_max, evalK_min, maxD_2, minD_2, eql_np, neq_np, copy1_slV, copy_slV, readV_slV, takeV_slV, keepV_slV, put_slV, vone_slV, cells_slV, leaves_slV, ref_slV, ownV_slV, ownV_slVt, one_slD, lenL_slD, loadV_cp_slD, settle_slV, ownV_oslT, ownV_tup, isC_t, isC_c, isC_mv, isC_f, eql_nil_nil, eql_nil_sl, neq_nil_nil, neq_nil_sl, eql_nm, bin_shl, bin_shr, bin_or, bin_and, bin_xor, killLp_nil, killLp_cons, killV_d, killV_osl, killV_ptr, killV_map, killV_box, killV_cp, killV_agg, killV_tup, killV_fn, killV_ifc, killV_undef, killV_lp, killV_rs, killV_slV, setCells_all, setCells_2, faV_cpc, cpV_i, cpV_s, cpV_b, cpV_sl, cpV_nil, cpV_slD, resultV_cell, resC_box, resC_ptr, boxK_alloc, boxK_box, putD_bx, boxD_t, putD_lp, lpD_f, hasNat_nil, hasNat_cons, takeV_rs, takeV_ptr, takeV_map, takeV_cp, takeV_lp, takeV_fn, takeV_ifc, takeV_agg, takeV_tup, putD_rs, putD_slV, noLp_nil, noLp_c, noL_d, noL_osl, noL_ptr, noL_map, noL_box, noL_cp, noL_agg, noL_tup, noL_fn, noL_ifc, noL_undef, noL_rs, noL_lp, noL_slV, keySet_nil, setAt_one, evalK_mkIfc, mkIfcV_d, evalK_panic, panV_ifc, ifc_neq, ifc_eql, ni_neq, ni_eql, eCall_t, callV_fn, leaves_ifcd, leaves_ifcu, evalK_mkFn, mkFnV_ok, copy_fn, killV_ifcd, killV_ifcu, noL_ifcd, noL_ifcu, putD_fn, putD_ifc, copy_ifc, copy1_ifc, ok_undef, eq_self, Int.cast_ofNat_Int, beq_true, beq_false, Nat.max_self, Nat.zero_max, Nat.max_zero, List.reduceReplicate, List.getElem?_cons_zero, List.getElem?_cons_succ, Nat.add_zero, List.set_cons_zero, List.set_cons_succ, ne_eq, Nat.reduceEqDiff, not_false_eq_true, not_true_eq_false, reduceCtorEq, Bool.true_and, Bool.and_true, Bool.false_and, Bool.and_false, Bool.not_true, Bool.not_false, Bool.false_or, Bool.true_or, Bool.or_false, Bool.or_true, ↓reduceIte, Nat.reduceAdd, Nat.reduceSub, Nat.reduceMul, decide_true, decide_false, decide_eq_true_eq, Bool.not_eq_true', decide_eq_false_iff_not, Option.map_some, Option.map_none, List.map_cons, List.map_nil, Nat.succ_eq_add_one, Nat.zero_add, List.cons_append, List.nil_append, List.append_nil, Bool.false_eq_true, Bool.true_eq_false, beq_self_eq_true, Int.reduceEq, Int.reduceNe, Int.reduceLT, Int.reduceLE, Int.reduceNeg, Int.reduceAdd, Int.reduceSub, Int.reduceMul, List.length_cons, List.length_nil, Bool.and_self, Bool.or_self, Int.not_lt, Int.not_le, Nat.reduceLT, Nat.reduceLeDiff, Nat.min_self, List.length_append, Nat.reduceBEq, List.drop_zero, List.drop_succ_cons, List.take_succ_cons, List.take_zero]
    all_goals rfl
  | succ m ih =>
    intro i hm hi
    have hl : lenV .lenL (.d (.sl (fl n))) H = some (.d (.i .i64 (n : Nat))) := by simp [lenV, fl_len]
    have h1 : ((i : Int) < (n : Int)) = True := by rw [eq_iff_iff]; simp; omega
    have hia : iaV (.d (.sl (fl n))) (.d (.i .i64 (i : Int))) 6 none = some (.cp (vrD i)) := iaV_sl (by omega) (by rw [Int.toNat_natCast]; exact fl_get n i (by omega)) (by simp [vrD, D.cells])
    have hw : wr .i64 ((i : Int) + 1) = ((i + 1 : Nat) : Int) := by rw [wr_i64 (by omega) (by omega)]; omega
    have hc : wr .u8 (i : Int) = (i : Int) := wr_u8 (by omega) (by omega)
    have ha : wr .u8 (97 + (i : Int)) = ((97 + i : Nat) : Int) := by rw [wr_u8 (by omega) (by omega)]; omega
    have ht := fun (H : List Obj) => txt1 (i := i) (by omega) (H := H)
    have s1 : ∀ c, binV .add .num c (.d (.s [102])) (.d (.s [97 + i])) = some (.d (.s [102, 97 + i])) := fun c => add2 (by simp)
    have ih' := ih (i + 1) (by omega) (by omega)
    rw [f_waferlaw12_TypesChain_l1_eq]
    simp only [vrD] at hia
    simp only [f_waferlaw12_TypesChain_B1, hl, h1, hia, hw, hc, ha, ht, s1, f_waferlaw12_TypesChain_l1_in, exL_skip, exL_ops, exL_opsD, exL_seq, exL_cond, exL_block, exL_exit, exL_ret, thenC_nrm, thenC_exit, thenC_ret, thenC_pan, thenC_none, thenC_ite, condC_b, blockC_nrm, blockC_exit, blockC_ret, blockC_pan, blockC_none, blockC_ite, restrict_nil, restrict_cons, runOps_nil, runOps_n, wantG_bt, wantG_bf, wantG_t, runOps_g, runOpsD_nil, runOpsD_n, runOpsD_g, wantC_b, wantDC_b, opC_ok, opC_pan, opC_none, opC_ite, opDC_same, opDC_serial, opDC_none, opDC_ite, putC_some, get_eq, get_ne, get_nil, finC_ite, finC_none, finC_ret, finC_nrm, finC_pan, leaveC_1, leaveC_0, leaveC_2, settle_d, settle_osl, settle_ptr, settle_map, settle_tup, settle_fn, settle_ifc, settle_agg, argEnv_cons, argEnv_nil, resultVs_nil, consO_some, resultVs_cons, resultV_t, ownV_d, ownV_ptr, ownV_map, ownV_osl, ownV_rs, ownV_fn, ownV_ifc, rd_t, rd_c, rd_f, rd_g, rd_mv, readV_d, readV_osl, readV_ptr, readV_lp, readV_box, readV_cp, readV_rs, readV_map, readV_fn, readV_ifc, readV_tup, readV_agg, takeV_d, takeV_osl, copy_d, copy_osl, copy_ptr, copy_map, copy1_d, copy1_osl, copy1_ptr, copy1_map, keepV_d, keepV_osl, keepV_ptr, keepV_lp, keepV_box, keepV_map, keepV_cp, keepV_rs, keepV_fn, keepV_ifc, keepV_tup, keepV_agg, keepV_undef, spent_t, spent_c, spent_f, spent_g, spent_mv, spentAll_nil, spentAll_cons, put_none, put_d, put_osl, put_ptr, put_lp, put_cp, put_rs, put_map, put_fn, put_ifc, put_tup, put_agg, put_undef, put_box, putD_d, putD_osl, putD_ptr, putD_cp, putD_map, putD_tup, putD_none, eqI_d, ble_d, beq_d, leI_d, eqT_d, evalK_mov, evalK_bin, okS_some, okS_none, okS_ite, bin_add, bin_sub, bin_mul, bin_quo, bin_rem, bin_eql, bin_neq, bin_lss, bin_leq, bin_gtr, bin_geq, bin_seql, bin_sneq, bin_sadd, bin_beql, bin_bneq, evalK_un, un_not, un_neg, evalK_pick, pickV_t, pickV_f, pickV_b, evalK_conv, evalK_lenS, evalK_lenL, lenS_s, lenL_nil, lenL_sl, lenL_rs, evalK_nilCheck, evalK_call, eCall_f, callC_some, callC_none, callC_ite, allLeave_nil, allLeave_cons, leaves_d, leaves_osl, leaves_ptr, leaves_map, leaves_rs, leaves_tup, leaves_fn, leaves_ifc, oks_nil, oks_cons, ok_d, ok_ptr, ok_map, ok_fn, ok_ifc, ok_rs, evalK_extract, extV_0, extV_1, extV_2, extV_3, ref_d, ref_osl, ref_ptr, ref_map, ref_rs, ref_tup, ref_ifc, ref_fn, refs_nil, refs_cons, evalK_fieldAddr, faV_ptr, faV_lp, faV_cp1, faV_cpA, one_b, one_i, one_s, one_sl, one_nil, evalK_load, loadV_ptr, cellV_1, cellV_A, loadV_lp, boxV_1, boxV_A, loadV_cp_i, loadV_cp_b, loadV_cp_s, loadV_cp_sl, loadV_cp_nil, loadV_cp_agg, copy1_map', copy1_fn, copy1_rs, evalK_loadMv, setAt_get, setAt_ne, setAt_setAt, setAt_length, evalK_store, storeV_P, storeP_cells, storePR_some, storeV_lp, storeB_box, storeR_some, setCells_1, cells_d1, cells_agg, cells_aggV, cells_ptr, cells_map, cells_osl, cells_rs, cells_fn, ones_nil, ones_cons, vone_d, vone_osl, vone_ptr, vone_map, vone_rs, vone_fn, evalK_alloc, evalK_allocL, evalK_box, boxN_f, boxN_t, evalK_mkMap, evalK_buildRow, rowR_some, evalK_assertOk, assertV_ifc, push_get, push_get1, push_get2, evalK_build, fillC_nil, fillC_1, fillC_A, aggO_some, mkAgg_eq, aggV_some, aggV_none, consD_some, consD_none, allD_nil, allD_d, allD_osl, allD_ptr, allD_map, allD_fn, allD_rs, allD_dmap, evalK_buildSlice, fillD_nil, fillD_cons, slO_some, mkSl_cons, mkSl_nil, wfs_nil, wfs_cons, wf_one, wf_agg, dones_nil, dones_cons, dcells_i, dcells_b, dcells_s, dcells_sl, dcells_nil, dcells_agg, evalK_append, appO_some, app_nil_nil, headIs_cons, headIs_nil, app_nil_cons, app_nil_sl0, app_osl, app_osl_nil, app_osl_s, evalK_indexAddr, iaV_arr, iaV_arrL, iaV_rs, evalK_index, optInt_none, optInt_some, oInt_i, evalK_sliceS, evalK_sliceL, cut2_some, evalK_sliceA, evalK_sliceM, cut3_some, evalK_text, textV_nil, textV_sl, bytesO_some, evalK_bytes, evalK_movS, evalK_field, fieldV_d, part_1, part_A, evalK_lookup, lookV_sE, lookV_iE, lookE_map, lookV_nm, findV_t, findV_f, findV_t0, findV_f0, evalK_mapUpdate, updV_sE, updV_iE, updE_map, setO_some, evalK_max, evalK_min, maxD_2, minD_2, eql_np, neq_np, copy1_slV, copy_slV, readV_slV, takeV_slV, keepV_slV, put_slV, vone_slV, cells_slV, leaves_slV, ref_slV, ownV_slV, ownV_slVt, one_slD, lenL_slD, loadV_cp_slD, settle_slV, ownV_oslT, ownV_tup, isC_t, isC_c, isC_mv, isC_f, eql_nil_nil, eql_nil_sl, neq_nil_nil, neq_nil_sl, eql_nm, bin_shl, bin_shr, bin_or, bin_and, bin_xor, killLp_nil, killLp_cons, killV_d, killV_osl, killV_ptr, killV_map, killV_box, killV_cp, killV_agg, killV_tup, killV_fn, killV_ifc, killV_undef, killV_lp, killV_rs, killV_slV, setCells_all, setCells_2, faV_cpc, cpV_i, cpV_s, cpV_b, cpV_sl, cpV_nil, cpV_slD, resultV_cell, resC_box, resC_ptr, boxK_alloc, boxK_box, putD_bx, boxD_t, putD_lp, lpD_f, hasNat_nil, hasNat_cons, takeV_rs, takeV_ptr, takeV_map, takeV_cp, takeV_lp, takeV_fn, takeV_ifc, takeV_agg, takeV_tup, putD_rs, putD_slV, noLp_nil, noLp_c, noL_d, noL_osl, noL_ptr, noL_map, noL_box, noL_cp, noL_agg, noL_tup, noL_fn, noL_ifc, noL_undef, noL_rs, noL_lp, noL_slV, keySet_nil, setAt_one, evalK_mkIfc, mkIfcV_d, evalK_panic, panV_ifc, ifc_neq, ifc_eql, ni_neq, ni_eql, eCall_t, callV_fn, leaves_ifcd, leaves_ifcu, evalK_mkFn, mkFnV_ok, copy_fn, killV_ifcd, killV_ifcu, noL_ifcd, noL_ifcu, putD_fn, putD_ifc, copy_ifc, copy1_ifc, ok_undef, eq_self, Int.cast_ofNat_Int, beq_true, beq_false, Nat.max_self, Nat.zero_max, Nat.max_zero, List.reduceReplicate, List.getElem?_cons_zero, List.getElem?_cons_succ, Nat.add_zero, List.set_cons_zero, List.set_cons_succ, ne_eq, Nat.reduceEqDiff, not_false_eq_true, not_true_eq_false, reduceCtorEq, Bool.true_and, Bool.and_true, Bool.false_and, Bool.and_false, Bool.not_true, Bool.not_false, Bool.false_or, Bool.true_or, Bool.or_false, Bool.or_true, ↓reduceIte, Nat.reduceAdd, Nat.reduceSub, Nat.reduceMul, decide_true, decide_false, decide_eq_true_eq, Bool.not_eq_true', decide_eq_false_iff_not, Option.map_some, Option.map_none, List.map_cons, List.map_nil, Nat.succ_eq_add_one, Nat.zero_add, List.cons_append, List.nil_append, List.append_nil, Bool.false_eq_true, Bool.true_eq_false, beq_self_eq_true, Int.reduceEq, Int.reduceNe, Int.reduceLT, Int.reduceLE, Int.reduceNeg, Int.reduceAdd, Int.reduceSub, Int.reduceMul, List.length_cons, List.length_nil, Bool.and_self, Bool.or_self, Int.not_lt, Int.not_le, Nat.reduceLT, Nat.reduceLeDiff, Nat.min_self, List.length_append, Nat.reduceBEq, List.drop_zero, List.drop_succ_cons, List.take_succ_cons, List.take_zero]
    first | exact ih' | (trace_state; sorry)
theorem fits_call {x y : Nat} {b : Bool} {H : List Obj} {lo : Nat} (h : callL pg 13 [.d (.s (nm x)), .d (.s (nm y)), .map 0] H = some ⟨false, true, .d (.b b), H, lo⟩) : ∃ sm lo2, callL pg 20 [.d (.agg [.i .i64 9, .i .i64 0, .s (nm y), .nil]), .d (.agg [.i .i64 9, .i .i64 0, .s (nm x), .nil]), .map 0] H = some ⟨false, sm, .d (.b b), H, lo2⟩ := by
  rw [callL_fn (fn := f_types_Fits) rfl rfl]
  generalize nm x = s at h
  generalize nm y = t at h
  simp only [f_types_Fits, h, exL_skip, exL_ops, exL_opsD, exL_seq, exL_cond, exL_block, exL_exit, exL_ret, thenC_nrm, thenC_exit, thenC_ret, thenC_pan, thenC_none, thenC_ite, condC_b, blockC_nrm, blockC_exit, blockC_ret, blockC_pan, blockC_none, blockC_ite, restrict_nil, restrict_cons, runOps_nil, runOps_n, wantG_bt, wantG_bf, wantG_t, runOps_g, runOpsD_nil, runOpsD_n, runOpsD_g, wantC_b, wantDC_b, opC_ok, opC_pan, opC_none, opC_ite, opDC_same, opDC_serial, opDC_none, opDC_ite, putC_some, get_eq, get_ne, get_nil, finC_ite, finC_none, finC_ret, finC_nrm, finC_pan, leaveC_1, leaveC_0, leaveC_2, settle_d, settle_osl, settle_ptr, settle_map, settle_tup, settle_fn, settle_ifc, settle_agg, argEnv_cons, argEnv_nil, resultVs_nil, consO_some, resultVs_cons, resultV_t, ownV_d, ownV_ptr, ownV_map, ownV_osl, ownV_rs, ownV_fn, ownV_ifc, rd_t, rd_c, rd_f, rd_g, rd_mv, readV_d, readV_osl, readV_ptr, readV_lp, readV_box, readV_cp, readV_rs, readV_map, readV_fn, readV_ifc, readV_tup, readV_agg, takeV_d, takeV_osl, copy_d, copy_osl, copy_ptr, copy_map, copy1_d, copy1_osl, copy1_ptr, copy1_map, keepV_d, keepV_osl, keepV_ptr, keepV_lp, keepV_box, keepV_map, keepV_cp, keepV_rs, keepV_fn, keepV_ifc, keepV_tup, keepV_agg, keepV_undef, spent_t, spent_c, spent_f, spent_g, spent_mv, spentAll_nil, spentAll_cons, put_none, put_d, put_osl, put_ptr, put_lp, put_cp, put_rs, put_map, put_fn, put_ifc, put_tup, put_agg, put_undef, put_box, putD_d, putD_osl, putD_ptr, putD_cp, putD_map, putD_tup, putD_none, eqI_d, ble_d, beq_d, leI_d, eqT_d, evalK_mov, evalK_bin, okS_some, okS_none, okS_ite, bin_add, bin_sub, bin_mul, bin_quo, bin_rem, bin_eql, bin_neq, bin_lss, bin_leq, bin_gtr, bin_geq, bin_seql, bin_sneq, bin_sadd, bin_beql, bin_bneq, evalK_un, un_not, un_neg, evalK_pick, pickV_t, pickV_f, pickV_b, evalK_conv, evalK_lenS, evalK_lenL, lenS_s, lenL_nil, lenL_sl, lenL_rs, evalK_nilCheck, evalK_call, eCall_f, callC_some, callC_none, callC_ite, allLeave_nil, allLeave_cons, leaves_d, leaves_osl, leaves_ptr, leaves_map, leaves_rs, leaves_tup, leaves_fn, leaves_ifc, oks_nil, oks_cons, ok_d, ok_ptr, ok_map, ok_fn, ok_ifc, ok_rs, evalK_extract, extV_0, extV_1, extV_2, extV_3, ref_d, ref_osl, ref_ptr, ref_map, ref_rs, ref_tup, ref_ifc, ref_fn, refs_nil, refs_cons, evalK_fieldAddr, faV_ptr, faV_lp, faV_cp1, faV_cpA, one_b, one_i, one_s, one_sl, one_nil, evalK_load, loadV_ptr, cellV_1, cellV_A, loadV_lp, boxV_1, boxV_A, loadV_cp_i, loadV_cp_b, loadV_cp_s, loadV_cp_sl, loadV_cp_nil, loadV_cp_agg, copy1_map', copy1_fn, copy1_rs, evalK_loadMv, setAt_get, setAt_ne, setAt_setAt, setAt_length, evalK_store, storeV_P, storeP_cells, storePR_some, storeV_lp, storeB_box, storeR_some, setCells_1, cells_d1, cells_agg, cells_aggV, cells_ptr, cells_map, cells_osl, cells_rs, cells_fn, ones_nil, ones_cons, vone_d, vone_osl, vone_ptr, vone_map, vone_rs, vone_fn, evalK_alloc, evalK_allocL, evalK_box, boxN_f, boxN_t, evalK_mkMap, evalK_buildRow, rowR_some, evalK_assertOk, assertV_ifc, push_get, push_get1, push_get2, evalK_build, fillC_nil, fillC_1, fillC_A, aggO_some, mkAgg_eq, aggV_some, aggV_none, consD_some, consD_none, allD_nil, allD_d, allD_osl, allD_ptr, allD_map, allD_fn, allD_rs, allD_dmap, evalK_buildSlice, fillD_nil, fillD_cons, slO_some, mkSl_cons, mkSl_nil, wfs_nil, wfs_cons, wf_one, wf_agg, dones_nil, dones_cons, dcells_i, dcells_b, dcells_s, dcells_sl, dcells_nil, dcells_agg, evalK_append, appO_some, app_nil_nil, headIs_cons, headIs_nil, app_nil_cons, app_nil_sl0, app_osl, app_osl_nil, app_osl_s, evalK_indexAddr, iaV_arr, iaV_arrL, iaV_rs, evalK_index, optInt_none, optInt_some, oInt_i, evalK_sliceS, evalK_sliceL, cut2_some, evalK_sliceA, evalK_sliceM, cut3_some, evalK_text, textV_nil, textV_sl, bytesO_some, evalK_bytes, evalK_movS, evalK_field, fieldV_d, part_1, part_A, evalK_lookup, lookV_sE, lookV_iE, lookE_map, lookV_nm, findV_t, findV_f, findV_t0, findV_f0, evalK_mapUpdate, updV_sE, updV_iE, updE_map, setO_some, evalK_max, evalK_min, maxD_2, minD_2, eql_np, neq_np, copy1_slV, copy_slV, readV_slV, takeV_slV, keepV_slV, put_slV, vone_slV, cells_slV, leaves_slV, ref_slV, ownV_slV, ownV_slVt, one_slD, lenL_slD, loadV_cp_slD, settle_slV, ownV_oslT, ownV_tup, isC_t, isC_c, isC_mv, isC_f, eql_nil_nil, eql_nil_sl, neq_nil_nil, neq_nil_sl, eql_nm, bin_shl, bin_shr, bin_or, bin_and, bin_xor, killLp_nil, killLp_cons, killV_d, killV_osl, killV_ptr, killV_map, killV_box, killV_cp, killV_agg, killV_tup, killV_fn, killV_ifc, killV_undef, killV_lp, killV_rs, killV_slV, setCells_all, setCells_2, faV_cpc, cpV_i, cpV_s, cpV_b, cpV_sl, cpV_nil, cpV_slD, resultV_cell, resC_box, resC_ptr, boxK_alloc, boxK_box, putD_bx, boxD_t, putD_lp, lpD_f, hasNat_nil, hasNat_cons, takeV_rs, takeV_ptr, takeV_map, takeV_cp, takeV_lp, takeV_fn, takeV_ifc, takeV_agg, takeV_tup, putD_rs, putD_slV, noLp_nil, noLp_c, noL_d, noL_osl, noL_ptr, noL_map, noL_box, noL_cp, noL_agg, noL_tup, noL_fn, noL_ifc, noL_undef, noL_rs, noL_lp, noL_slV, keySet_nil, setAt_one, evalK_mkIfc, mkIfcV_d, evalK_panic, panV_ifc, ifc_neq, ifc_eql, ni_neq, ni_eql, eCall_t, callV_fn, leaves_ifcd, leaves_ifcu, evalK_mkFn, mkFnV_ok, copy_fn, killV_ifcd, killV_ifcu, noL_ifcd, noL_ifcu, putD_fn, putD_ifc, copy_ifc, copy1_ifc, ok_undef, eq_self, Int.cast_ofNat_Int, beq_true, beq_false, Nat.max_self, Nat.zero_max, Nat.max_zero, List.reduceReplicate, List.getElem?_cons_zero, List.getElem?_cons_succ, Nat.add_zero, List.set_cons_zero, List.set_cons_succ, ne_eq, Nat.reduceEqDiff, not_false_eq_true, not_true_eq_false, reduceCtorEq, Bool.true_and, Bool.and_true, Bool.false_and, Bool.and_false, Bool.not_true, Bool.not_false, Bool.false_or, Bool.true_or, Bool.or_false, Bool.or_true, ↓reduceIte, Nat.reduceAdd, Nat.reduceSub, Nat.reduceMul, decide_true, decide_false, decide_eq_true_eq, Bool.not_eq_true', decide_eq_false_iff_not, Option.map_some, Option.map_none, List.map_cons, List.map_nil, Nat.succ_eq_add_one, Nat.zero_add, List.cons_append, List.nil_append, List.append_nil, Bool.false_eq_true, Bool.true_eq_false, beq_self_eq_true, Int.reduceEq, Int.reduceNe, Int.reduceLT, Int.reduceLE, Int.reduceNeg, Int.reduceAdd, Int.reduceSub, Int.reduceMul, List.length_cons, List.length_nil, Bool.and_self, Bool.or_self, Int.not_lt, Int.not_le, Nat.reduceLT, Nat.reduceLeDiff, Nat.min_self, List.length_append, Nat.reduceBEq, List.drop_zero, List.drop_succ_cons, List.take_succ_cons, List.take_zero]
  by_cases hl : H.length ≤ min H.length lo
  · exact ⟨true, _, leave_same rfl (Nat.zero_le _) hl⟩
  · exact ⟨false, _, leave_new rfl (.inr (by simp only; omega))⟩
theorem chain_law {n a b : Nat} (hn : n < 256) (ha : a < 256) (hb : b < 256) : callL pg 5 [.d (.i .u8 (n : Nat)), .d (.i .u8 (a : Nat)), .d (.i .u8 (b : Nat))] [] = some ⟨false, true, .d (.b true), [], 0⟩ := by
  obtain ⟨lo, hk⟩ := known_call
  have hz0 : ∀ n : Nat, min 0 n = 0 := Nat.zero_min
  have hz1 : ((0 : Nat) : Int) = 0 := rfl
  have hm : ((n : Int).tmod 12) = ((n % 12 : Nat) : Int) := tmod_nat (a := n) (m := 12)
  have h12 : n % 12 < 12 := Nat.mod_lt _ (by omega)
  have z12 : ((12 : Int) = 0) = False := by simp
  generalize n % 12 = q at hm h12
  have hcv : wr .i64 (q : Int) = (q : Int) := by rw [wr_i64 (by omega) (by omega)]
  have hkk : wr .i64 ((q : Int) + 1) = ((q + 1 : Nat) : Int) := by rw [wr_i64 (by omega) (by omega)]; omega
  obtain ⟨k, rfl⟩ : ∃ k, k = q + 1 := ⟨_, rfl⟩
  have hk12 : q + 1 ≤ 12 := by omega
  have hk0 : 0 < q + 1 := by omega
  have hl := chain_loop (a := .i .u8 (a : Nat)) (b := .i .u8 (b : Nat)) hk12 (q + 1) 0 rfl (by omega)
  rw [hz1] at hl
  have he0 : es 0 = [] := rfl
  rw [he0] at hl
  have ca : wr .i64 (a : Int) = (a : Int) := by rw [wr_i64 (by omega) (by omega)]
  have cb : wr .i64 (b : Int) = (b : Int) := by rw [wr_i64 (by omega) (by omega)]
  have ma : ((a : Int).tmod ((q + 1 : Nat) : Int)) = ((a % (q + 1) : Nat) : Int) := tmod_nat
  have mb : ((b : Int).tmod ((q + 1 : Nat) : Int)) = ((b % (q + 1) : Nat) : Int) := tmod_nat
  have hx : a % (q + 1) < q + 1 := Nat.mod_lt _ hk0
  have hy : b % (q + 1) < q + 1 := Nat.mod_lt _ hk0
  have zk : (((q + 1 : Nat) : Int) = 0) = False := eq_false (by omega)
  generalize a % (q + 1) = x at ma hx
  generalize b % (q + 1) = y at mb hy
  generalize hK : q + 1 = K at *
  obtain ⟨l1, f1⟩ := fields_fact hk12 hx
  obtain ⟨l2, f2⟩ := words_fact hk12 hx
  obtain ⟨l3, f3⟩ := ext_fact hk12 hx hy
  obtain ⟨sm, l4, f4⟩ := fits_call f3
  have ux : wr .u8 (x : Int) = (x : Int) := wr_u8 (by omega) (by omega)
  have uy : wr .u8 (y : Int) = (y : Int) := wr_u8 (by omega) (by omega)
  have vx : wr .u8 (97 + (x : Int)) = ((97 + x : Nat) : Int) := by rw [wr_u8 (by omega) (by omega)]; omega
  have vy : wr .u8 (97 + (y : Int)) = ((97 + y : Nat) : Int) := by rw [wr_u8 (by omega) (by omega)]; omega
  have tx := fun (H : List Obj) => txt1 (i := x) (by omega) (H := H)
  have ty := fun (H : List Obj) => txt1 (i := y) (by omega) (H := H)
  have sx : ∀ c, binV .add .num c (.d (.s [77, 46])) (.d (.s [97 + x])) = some (.d (.s (nm x))) := fun c => add2 (by simp)
  have sy : ∀ c, binV .add .num c (.d (.s [77, 46])) (.d (.s [97 + y])) = some (.d (.s (nm y))) := fun c => add2 (by simp)
  have hlen : ∀ H : List Obj, lenV .lenL (.d (.sl (fl (x + 1)))) H = some (.d (.i .i64 ((x + 1 : Nat) : Int))) := fun H => by simp [lenV, fl_len]
  have w1 : wr .i64 ((x : Int) + 1) = ((x + 1 : Nat) : Int) := by rw [wr_i64 (by omega) (by omega)]; omega
  have w2 : wr .i64 ((x : Int) + 2) = ((x + 2 : Nat) : Int) := by rw [wr_i64 (by omega) (by omega)]; omega
  have hp : (x + 1) * (x + 2) ≤ 13 * 14 := Nat.mul_le_mul (by omega) (by omega)
  have w3 : wr .i64 (((x + 1 : Nat) : Int) * ((x + 2 : Nat) : Int)) = (((x + 1) * (x + 2) : Nat) : Int) := by
    have e : (((x + 1 : Nat) : Int) * ((x + 2 : Nat) : Int)) = (((x + 1) * (x + 2) : Nat) : Int) := by push_cast; rfl
    rw [e]; exact wr_i64 (by omega) (by omega)
  have w4 : wr .i64 ((((x + 1) * (x + 2) : Nat) : Int).tdiv 2) = (((x + 1) * (x + 2) / 2 : Nat) : Int) := by
    have e : ((((x + 1) * (x + 2) : Nat) : Int).tdiv 2) = (((x + 1) * (x + 2) / 2 : Nat) : Int) := by
      rw [Int.tdiv_eq_ediv_of_nonneg (by omega)]; rfl
    rw [e]; exact wr_i64 (by omega) (by omega)
  generalize (x + 1) * (x + 2) = pr at w3 w4 f2
  generalize pr / 2 = hf at w4 f2
  have z2 : ((2 : Int) = 0) = False := by simp
  have nl := names_loop2 (x11 := (x : Int)) (x12 := (y : Int)) (t13 := nm x) (t14 := nm y) (n := x + 1) (by omega) (H := [.map (es K)]) rfl (x + 1) 0 rfl (by omega)
  rw [hz1] at nl
  rw [callL_fn (fn := f_waferlaw12_TypesChain) rfl rfl]
  generalize nm x = nx at *
  generalize nm y = ny at *
  generalize hfl : fl (x + 1) = lst at *
  by_cases hyx : y ≤ x
  · have ge : (((y : Nat) : Int) ≤ (x : Int)) = True := eq_true (by omega)
    rw [decide_eq_true hyx] at f3 f4
    simp only [f_waferlaw12_TypesChain, f_waferlaw12_TypesChain_R2, f_waferlaw12_TypesChain_R3, hk, hz0, hm, hcv, hkk, z12, hl, ca, cb, ma, mb, zk, ux, uy, vx, vy, tx, ty, sx, sy, f1, f2, f3, f4, hlen, w1, w2, w3, w4, z2, nl, ge, List.nil_append, List.length_nil, f_waferlaw12_TypesChain_l0_in, f_waferlaw12_TypesChain_l1_in, leave_pure, exL_skip, exL_ops, exL_opsD, exL_seq, exL_cond, exL_block, exL_exit, exL_ret, thenC_nrm, thenC_exit, thenC_ret, thenC_pan, thenC_none, thenC_ite, condC_b, blockC_nrm, blockC_exit, blockC_ret, blockC_pan, blockC_none, blockC_ite, restrict_nil, restrict_cons, runOps_nil, runOps_n, wantG_bt, wantG_bf, wantG_t, runOps_g, runOpsD_nil, runOpsD_n, runOpsD_g, wantC_b, wantDC_b, opC_ok, opC_pan, opC_none, opC_ite, opDC_same, opDC_serial, opDC_none, opDC_ite, putC_some, get_eq, get_ne, get_nil, finC_ite, finC_none, finC_ret, finC_nrm, finC_pan, leaveC_1, leaveC_0, leaveC_2, settle_d, settle_osl, settle_ptr, settle_map, settle_tup, settle_fn, settle_ifc, settle_agg, argEnv_cons, argEnv_nil, resultVs_nil, consO_some, resultVs_cons, resultV_t, ownV_d, ownV_ptr, ownV_map, ownV_osl, ownV_rs, ownV_fn, ownV_ifc, rd_t, rd_c, rd_f, rd_g, rd_mv, readV_d, readV_osl, readV_ptr, readV_lp, readV_box, readV_cp, readV_rs, readV_map, readV_fn, readV_ifc, readV_tup, readV_agg, takeV_d, takeV_osl, copy_d, copy_osl, copy_ptr, copy_map, copy1_d, copy1_osl, copy1_ptr, copy1_map, keepV_d, keepV_osl, keepV_ptr, keepV_lp, keepV_box, keepV_map, keepV_cp, keepV_rs, keepV_fn, keepV_ifc, keepV_tup, keepV_agg, keepV_undef, spent_t, spent_c, spent_f, spent_g, spent_mv, spentAll_nil, spentAll_cons, put_none, put_d, put_osl, put_ptr, put_lp, put_cp, put_rs, put_map, put_fn, put_ifc, put_tup, put_agg, put_undef, put_box, putD_d, putD_osl, putD_ptr, putD_cp, putD_map, putD_tup, putD_none, eqI_d, ble_d, beq_d, leI_d, eqT_d, evalK_mov, evalK_bin, okS_some, okS_none, okS_ite, bin_add, bin_sub, bin_mul, bin_quo, bin_rem, bin_eql, bin_neq, bin_lss, bin_leq, bin_gtr, bin_geq, bin_seql, bin_sneq, bin_sadd, bin_beql, bin_bneq, evalK_un, un_not, un_neg, evalK_pick, pickV_t, pickV_f, pickV_b, evalK_conv, evalK_lenS, evalK_lenL, lenS_s, lenL_nil, lenL_sl, lenL_rs, evalK_nilCheck, evalK_call, eCall_f, callC_some, callC_none, callC_ite, allLeave_nil, allLeave_cons, leaves_d, leaves_osl, leaves_ptr, leaves_map, leaves_rs, leaves_tup, leaves_fn, leaves_ifc, oks_nil, oks_cons, ok_d, ok_ptr, ok_map, ok_fn, ok_ifc, ok_rs, evalK_extract, extV_0, extV_1, extV_2, extV_3, ref_d, ref_osl, ref_ptr, ref_map, ref_rs, ref_tup, ref_ifc, ref_fn, refs_nil, refs_cons, evalK_fieldAddr, faV_ptr, faV_lp, faV_cp1, faV_cpA, one_b, one_i, one_s, one_sl, one_nil, evalK_load, loadV_ptr, cellV_1, cellV_A, loadV_lp, boxV_1, boxV_A, loadV_cp_i, loadV_cp_b, loadV_cp_s, loadV_cp_sl, loadV_cp_nil, loadV_cp_agg, copy1_map', copy1_fn, copy1_rs, evalK_loadMv, setAt_get, setAt_ne, setAt_setAt, setAt_length, evalK_store, storeV_P, storeP_cells, storePR_some, storeV_lp, storeB_box, storeR_some, setCells_1, cells_d1, cells_agg, cells_aggV, cells_ptr, cells_map, cells_osl, cells_rs, cells_fn, ones_nil, ones_cons, vone_d, vone_osl, vone_ptr, vone_map, vone_rs, vone_fn, evalK_alloc, evalK_allocL, evalK_box, boxN_f, boxN_t, evalK_mkMap, evalK_buildRow, rowR_some, evalK_assertOk, assertV_ifc, push_get, push_get1, push_get2, evalK_build, fillC_nil, fillC_1, fillC_A, aggO_some, mkAgg_eq, aggV_some, aggV_none, consD_some, consD_none, allD_nil, allD_d, allD_osl, allD_ptr, allD_map, allD_fn, allD_rs, allD_dmap, evalK_buildSlice, fillD_nil, fillD_cons, slO_some, mkSl_cons, mkSl_nil, wfs_nil, wfs_cons, wf_one, wf_agg, dones_nil, dones_cons, dcells_i, dcells_b, dcells_s, dcells_sl, dcells_nil, dcells_agg, evalK_append, appO_some, app_nil_nil, headIs_cons, headIs_nil, app_nil_cons, app_nil_sl0, app_osl, app_osl_nil, app_osl_s, evalK_indexAddr, iaV_arr, iaV_arrL, iaV_rs, evalK_index, optInt_none, optInt_some, oInt_i, evalK_sliceS, evalK_sliceL, cut2_some, evalK_sliceA, evalK_sliceM, cut3_some, evalK_text, textV_nil, textV_sl, bytesO_some, evalK_bytes, evalK_movS, evalK_field, fieldV_d, part_1, part_A, evalK_lookup, lookV_sE, lookV_iE, lookE_map, lookV_nm, findV_t, findV_f, findV_t0, findV_f0, evalK_mapUpdate, updV_sE, updV_iE, updE_map, setO_some, evalK_max, evalK_min, maxD_2, minD_2, eql_np, neq_np, copy1_slV, copy_slV, readV_slV, takeV_slV, keepV_slV, put_slV, vone_slV, cells_slV, leaves_slV, ref_slV, ownV_slV, ownV_slVt, one_slD, lenL_slD, loadV_cp_slD, settle_slV, ownV_oslT, ownV_tup, isC_t, isC_c, isC_mv, isC_f, eql_nil_nil, eql_nil_sl, neq_nil_nil, neq_nil_sl, eql_nm, bin_shl, bin_shr, bin_or, bin_and, bin_xor, killLp_nil, killLp_cons, killV_d, killV_osl, killV_ptr, killV_map, killV_box, killV_cp, killV_agg, killV_tup, killV_fn, killV_ifc, killV_undef, killV_lp, killV_rs, killV_slV, setCells_all, setCells_2, faV_cpc, cpV_i, cpV_s, cpV_b, cpV_sl, cpV_nil, cpV_slD, resultV_cell, resC_box, resC_ptr, boxK_alloc, boxK_box, putD_bx, boxD_t, putD_lp, lpD_f, hasNat_nil, hasNat_cons, takeV_rs, takeV_ptr, takeV_map, takeV_cp, takeV_lp, takeV_fn, takeV_ifc, takeV_agg, takeV_tup, putD_rs, putD_slV, noLp_nil, noLp_c, noL_d, noL_osl, noL_ptr, noL_map, noL_box, noL_cp, noL_agg, noL_tup, noL_fn, noL_ifc, noL_undef, noL_rs, noL_lp, noL_slV, keySet_nil, setAt_one, evalK_mkIfc, mkIfcV_d, evalK_panic, panV_ifc, ifc_neq, ifc_eql, ni_neq, ni_eql, eCall_t, callV_fn, leaves_ifcd, leaves_ifcu, evalK_mkFn, mkFnV_ok, copy_fn, killV_ifcd, killV_ifcu, noL_ifcd, noL_ifcu, putD_fn, putD_ifc, copy_ifc, copy1_ifc, ok_undef, eq_self, Int.cast_ofNat_Int, beq_true, beq_false, Nat.max_self, Nat.zero_max, Nat.max_zero, List.reduceReplicate, List.getElem?_cons_zero, List.getElem?_cons_succ, Nat.add_zero, List.set_cons_zero, List.set_cons_succ, ne_eq, Nat.reduceEqDiff, not_false_eq_true, not_true_eq_false, reduceCtorEq, Bool.true_and, Bool.and_true, Bool.false_and, Bool.and_false, Bool.not_true, Bool.not_false, Bool.false_or, Bool.true_or, Bool.or_false, Bool.or_true, ↓reduceIte, Nat.reduceAdd, Nat.reduceSub, Nat.reduceMul, decide_true, decide_false, decide_eq_true_eq, Bool.not_eq_true', decide_eq_false_iff_not, Option.map_some, Option.map_none, List.map_cons, List.map_nil, Nat.succ_eq_add_one, Nat.zero_add, List.cons_append, List.nil_append, List.append_nil, Bool.false_eq_true, Bool.true_eq_false, beq_self_eq_true, Int.reduceEq, Int.reduceNe, Int.reduceLT, Int.reduceLE, Int.reduceNeg, Int.reduceAdd, Int.reduceSub, Int.reduceMul, List.length_cons, List.length_nil, Bool.and_self, Bool.or_self, Int.not_lt, Int.not_le, Nat.reduceLT, Nat.reduceLeDiff, Nat.min_self, List.length_append, Nat.reduceBEq, List.drop_zero, List.drop_succ_cons, List.take_succ_cons, List.take_zero]
    all_goals (first | done | rfl | (exact leave_same rfl (Nat.zero_le _) (Nat.zero_le _)) | (trace_state; sorry))
  · have ge : (((y : Nat) : Int) ≤ (x : Int)) = False := eq_false (by omega)
    rw [decide_eq_false hyx] at f3 f4
    simp only [f_waferlaw12_TypesChain, f_waferlaw12_TypesChain_R2, f_waferlaw12_TypesChain_R3, hk, hz0, hm, hcv, hkk, z12, hl, ca, cb, ma, mb, zk, ux, uy, vx, vy, tx, ty, sx, sy, f1, f2, f3, f4, hlen, w1, w2, w3, w4, z2, nl, ge, List.nil_append, List.length_nil, f_waferlaw12_TypesChain_l0_in, f_waferlaw12_TypesChain_l1_in, leave_pure, exL_skip, exL_ops, exL_opsD, exL_seq, exL_cond, exL_block, exL_exit, exL_ret, thenC_nrm, thenC_exit, thenC_ret, thenC_pan, thenC_none, thenC_ite, condC_b, blockC_nrm, blockC_exit, blockC_ret, blockC_pan, blockC_none, blockC_ite, restrict_nil, restrict_cons, runOps_nil, runOps_n, wantG_bt, wantG_bf, wantG_t, runOps_g, runOpsD_nil, runOpsD_n, runOpsD_g, wantC_b, wantDC_b, opC_ok, opC_pan, opC_none, opC_ite, opDC_same, opDC_serial, opDC_none, opDC_ite, putC_some, get_eq, get_ne, get_nil, finC_ite, finC_none, finC_ret, finC_nrm, finC_pan, leaveC_1, leaveC_0, leaveC_2, settle_d, settle_osl, settle_ptr, settle_map, settle_tup, settle_fn, settle_ifc, settle_agg, argEnv_cons, argEnv_nil, resultVs_nil, consO_some, resultVs_cons, resultV_t, ownV_d, ownV_ptr, ownV_map, ownV_osl, ownV_rs, ownV_fn, ownV_ifc, rd_t, rd_c, rd_f, rd_g, rd_mv, readV_d, readV_osl, readV_ptr, readV_lp, readV_box, readV_cp, readV_rs, readV_map, readV_fn, readV_ifc, readV_tup, readV_agg, takeV_d, takeV_osl, copy_d, copy_osl, copy_ptr, copy_map, copy1_d, copy1_osl, copy1_ptr, copy1_map, keepV_d, keepV_osl, keepV_ptr, keepV_lp, keepV_box, keepV_map, keepV_cp, keepV_rs, keepV_fn, keepV_ifc, keepV_tup, keepV_agg, keepV_undef, spent_t, spent_c, spent_f, spent_g, spent_mv, spentAll_nil, spentAll_cons, put_none, put_d, put_osl, put_ptr, put_lp, put_cp, put_rs, put_map, put_fn, put_ifc, put_tup, put_agg, put_undef, put_box, putD_d, putD_osl, putD_ptr, putD_cp, putD_map, putD_tup, putD_none, eqI_d, ble_d, beq_d, leI_d, eqT_d, evalK_mov, evalK_bin, okS_some, okS_none, okS_ite, bin_add, bin_sub, bin_mul, bin_quo, bin_rem, bin_eql, bin_neq, bin_lss, bin_leq, bin_gtr, bin_geq, bin_seql, bin_sneq, bin_sadd, bin_beql, bin_bneq, evalK_un, un_not, un_neg, evalK_pick, pickV_t, pickV_f, pickV_b, evalK_conv, evalK_lenS, evalK_lenL, lenS_s, lenL_nil, lenL_sl, lenL_rs, evalK_nilCheck, evalK_call, eCall_f, callC_some, callC_none, callC_ite, allLeave_nil, allLeave_cons, leaves_d, leaves_osl, leaves_ptr, leaves_map, leaves_rs, leaves_tup, leaves_fn, leaves_ifc, oks_nil, oks_cons, ok_d, ok_ptr, ok_map, ok_fn, ok_ifc, ok_rs, evalK_extract, extV_0, extV_1, extV_2, extV_3, ref_d, ref_osl, ref_ptr, ref_map, ref_rs, ref_tup, ref_ifc, ref_fn, refs_nil, refs_cons, evalK_fieldAddr, faV_ptr, faV_lp, faV_cp1, faV_cpA, one_b, one_i, one_s, one_sl, one_nil, evalK_load, loadV_ptr, cellV_1, cellV_A, loadV_lp, boxV_1, boxV_A, loadV_cp_i, loadV_cp_b, loadV_cp_s, loadV_cp_sl, loadV_cp_nil, loadV_cp_agg, copy1_map', copy1_fn, copy1_rs, evalK_loadMv, setAt_get, setAt_ne, setAt_setAt, setAt_length, evalK_store, storeV_P, storeP_cells, storePR_some, storeV_lp, storeB_box, storeR_some, setCells_1, cells_d1, cells_agg, cells_aggV, cells_ptr, cells_map, cells_osl, cells_rs, cells_fn, ones_nil, ones_cons, vone_d, vone_osl, vone_ptr, vone_map, vone_rs, vone_fn, evalK_alloc, evalK_allocL, evalK_box, boxN_f, boxN_t, evalK_mkMap, evalK_buildRow, rowR_some, evalK_assertOk, assertV_ifc, push_get, push_get1, push_get2, evalK_build, fillC_nil, fillC_1, fillC_A, aggO_some, mkAgg_eq, aggV_some, aggV_none, consD_some, consD_none, allD_nil, allD_d, allD_osl, allD_ptr, allD_map, allD_fn, allD_rs, allD_dmap, evalK_buildSlice, fillD_nil, fillD_cons, slO_some, mkSl_cons, mkSl_nil, wfs_nil, wfs_cons, wf_one, wf_agg, dones_nil, dones_cons, dcells_i, dcells_b, dcells_s, dcells_sl, dcells_nil, dcells_agg, evalK_append, appO_some, app_nil_nil, headIs_cons, headIs_nil, app_nil_cons, app_nil_sl0, app_osl, app_osl_nil, app_osl_s, evalK_indexAddr, iaV_arr, iaV_arrL, iaV_rs, evalK_index, optInt_none, optInt_some, oInt_i, evalK_sliceS, evalK_sliceL, cut2_some, evalK_sliceA, evalK_sliceM, cut3_some, evalK_text, textV_nil, textV_sl, bytesO_some, evalK_bytes, evalK_movS, evalK_field, fieldV_d, part_1, part_A, evalK_lookup, lookV_sE, lookV_iE, lookE_map, lookV_nm, findV_t, findV_f, findV_t0, findV_f0, evalK_mapUpdate, updV_sE, updV_iE, updE_map, setO_some, evalK_max, evalK_min, maxD_2, minD_2, eql_np, neq_np, copy1_slV, copy_slV, readV_slV, takeV_slV, keepV_slV, put_slV, vone_slV, cells_slV, leaves_slV, ref_slV, ownV_slV, ownV_slVt, one_slD, lenL_slD, loadV_cp_slD, settle_slV, ownV_oslT, ownV_tup, isC_t, isC_c, isC_mv, isC_f, eql_nil_nil, eql_nil_sl, neq_nil_nil, neq_nil_sl, eql_nm, bin_shl, bin_shr, bin_or, bin_and, bin_xor, killLp_nil, killLp_cons, killV_d, killV_osl, killV_ptr, killV_map, killV_box, killV_cp, killV_agg, killV_tup, killV_fn, killV_ifc, killV_undef, killV_lp, killV_rs, killV_slV, setCells_all, setCells_2, faV_cpc, cpV_i, cpV_s, cpV_b, cpV_sl, cpV_nil, cpV_slD, resultV_cell, resC_box, resC_ptr, boxK_alloc, boxK_box, putD_bx, boxD_t, putD_lp, lpD_f, hasNat_nil, hasNat_cons, takeV_rs, takeV_ptr, takeV_map, takeV_cp, takeV_lp, takeV_fn, takeV_ifc, takeV_agg, takeV_tup, putD_rs, putD_slV, noLp_nil, noLp_c, noL_d, noL_osl, noL_ptr, noL_map, noL_box, noL_cp, noL_agg, noL_tup, noL_fn, noL_ifc, noL_undef, noL_rs, noL_lp, noL_slV, keySet_nil, setAt_one, evalK_mkIfc, mkIfcV_d, evalK_panic, panV_ifc, ifc_neq, ifc_eql, ni_neq, ni_eql, eCall_t, callV_fn, leaves_ifcd, leaves_ifcu, evalK_mkFn, mkFnV_ok, copy_fn, killV_ifcd, killV_ifcu, noL_ifcd, noL_ifcu, putD_fn, putD_ifc, copy_ifc, copy1_ifc, ok_undef, eq_self, Int.cast_ofNat_Int, beq_true, beq_false, Nat.max_self, Nat.zero_max, Nat.max_zero, List.reduceReplicate, List.getElem?_cons_zero, List.getElem?_cons_succ, Nat.add_zero, List.set_cons_zero, List.set_cons_succ, ne_eq, Nat.reduceEqDiff, not_false_eq_true, not_true_eq_false, reduceCtorEq, Bool.true_and, Bool.and_true, Bool.false_and, Bool.and_false, Bool.not_true, Bool.not_false, Bool.false_or, Bool.true_or, Bool.or_false, Bool.or_true, ↓reduceIte, Nat.reduceAdd, Nat.reduceSub, Nat.reduceMul, decide_true, decide_false, decide_eq_true_eq, Bool.not_eq_true', decide_eq_false_iff_not, Option.map_some, Option.map_none, List.map_cons, List.map_nil, Nat.succ_eq_add_one, Nat.zero_add, List.cons_append, List.nil_append, List.append_nil, Bool.false_eq_true, Bool.true_eq_false, beq_self_eq_true, Int.reduceEq, Int.reduceNe, Int.reduceLT, Int.reduceLE, Int.reduceNeg, Int.reduceAdd, Int.reduceSub, Int.reduceMul, List.length_cons, List.length_nil, Bool.and_self, Bool.or_self, Int.not_lt, Int.not_le, Nat.reduceLT, Nat.reduceLeDiff, Nat.min_self, List.length_append, Nat.reduceBEq, List.drop_zero, List.drop_succ_cons, List.take_succ_cons, List.take_zero]
    all_goals (first | done | rfl | (exact leave_same rfl (Nat.zero_le _) (Nat.zero_le _)) | (trace_state; sorry))
end W

/-
  From the small semantics to a law's statement: what is read stays; the answer is true.
-/
set_option linter.unusedSimpArgs false
set_option linter.unusedVariables false
namespace W
open Go (World Value Addr IntKind Program TypeId FuncId Operand Act Oper Next Result Sem Ending Exit Code Func DataW MemPlace Calls trodAll_cons_mk)
open Go.ChangeShapes Go.RowKit Go.WideShapes Go.ChangeAt

section
variable {P : Program} {Hh : Type} {enc : TypeId × Value → Hh}

theorem sameAt_old {W W' : World} (hb : ∀ b, b < W.heap.size → W'.heap[b]? = W.heap[b]?) {p : MemPlace} (hp : p.block < W.heap.size) : W.sameAt W' p := by
  cases p with
  | cell b o => exact cell_of_heap (hb b hp) o
  | map b => exact hb b hp

/-- What was read reads again. -/
theorem trodAll_stays (hl : Go.laidOutB P = true) {W W' : World} (hb : ∀ b, b < W.heap.size → W'.heap[b]? = W.heap[b]?) {sp : Nat → Bool} : ∀ {ts : List TypeId} {vs : List Value} {ds : List (DataW Hh)} {ps : List MemPlace}, (∀ t ∈ ts, P.readableRec t = true ∧ t < P.types.size) →
    DataW.TrodAll enc P W 0 (fun _ => true) true ts vs ds ps → (∀ p ∈ ps, p.block < W.heap.size) → (∀ p ∈ ps, sp p.block = true) → DataW.TrodAll enc P W' 0 sp true ts vs ds ps
  | [], vs, ds, ps, hr, h, hlt, hs => by
    obtain ⟨rfl, rfl, rfl⟩ := trodAll_nil h
    exact trodAll_mk0
  | t :: ts, vs, ds, ps, hr, h, hlt, hs => by
    obtain ⟨v, vs', d, ds', p, q, rfl, rfl, rfl, hd, hrest⟩ := trodAll_cons h
    refine trodAll_cons_mk (Go.WideElems.Trod_stays hl (hr t (by simp)).1 (hr t (by simp)).2 hd (fun x hx => sameAt_old hb (hlt x (by simp [hx]))) (fun x hx => hs x (by simp [hx])))
      (trodAll_stays hl hb (fun u hu => hr u (by simp [hu])) hrest (fun x hx => hlt x (by simp [hx])) (fun x hx => hs x (by simp [hx])))

/-- A law's post: it has answered true, and nothing of what was there has turned. -/
theorem law_post {f : Func} {s : Go.ChangeSpec} {apart fresh handsOn again : Bool} {W W' : World} {args : Array Value} {ds gs : List (DataW Hh)} {before : List MemPlace} {tb : TypeId} (hvars : s.vars = [])
    (hW : DataW.Whole enc P f.params.toList s.vars apart W args.toList ds gs before) (hs : s.fn Hh ds = { results := [.lit (.bool true)], args := ds }) (hres : f.resultTypes = #[tb]) (htb : P.underlying tb = some .bool)
    (hl : Go.laidOutB P = true) (hread : ∀ t ∈ f.params.toList, P.readableRec t = true ∧ t < P.types.size)
    (hio : W'.os = W.os ∧ W'.output = W.output) (hb : ∀ b, b < W.heap.size → W'.heap[b]? = W.heap[b]?) :
    s.post enc P f apart fresh handsOn again W args (.bool true) W' := by
  have hlt : ∀ p ∈ before, p.block < W.heap.size := fun p hp => by simpa using hW.lt p hp
  have hW' := hW
  obtain ⟨p, q, hA, hV, rfl, hfz, hnd⟩ := hW
  rw [hvars] at hV
  obtain ⟨rfl, rfl⟩ := trodVars_none hV
  have hfn : s.fn Hh (ds ++ []) = { results := [.lit (.bool true)], args := ds } := by rw [List.append_nil]; exact hs
  have hargs : ∀ sp : Nat → Bool, (∀ x ∈ p ++ [], sp x.block = true) → DataW.TrodAll enc P W' 0 sp true f.params.toList args.toList ds p := fun sp hsp =>
    trodAll_stays hl hb hread hA (fun x hx => hlt x (by simp [hx])) (fun x hx => hsp x (by simp [hx]))
  have hk : W.keptBut W' (fun _ => False) := by
    refine ⟨hio.1, hio.2, fun i hi => ?_⟩
    rw [hb i hi]
    cases hq : W.heap[i]? with
    | none => rfl
    | some o => cases o <;> first | rfl | exact ⟨rfl, rfl, rfl, fun _ _ => rfl⟩ | exact .inr ⟨rfl, rfl⟩
  have hresT : ∀ (b : Nat) (sp : Nat → Bool) (hd : Bool), DataW.TrodAll enc P W' b sp hd f.resultTypes.toList ((Value.bool true).resultList f.resultTypes.size) [.lit (.bool true)] [] := fun b sp hd => by
    rw [hres]
    exact trodAll_cons_mk (shut_bool htb _) trodAll_mk0
  have hfz' : ∀ a : Addr, a.block < W.heap.size → W'.frozen? a = W.frozen? a := fun a ha => by simp only [World.frozen?, hb a.block ha]
  have hres2 : ∀ (b : Nat) (sp : Nat → Bool) (hd : Bool), DataW.TrodAll enc P W' b sp hd f.resultTypes.toList ((Value.bool true).resultList f.resultTypes.size) (s.fn Hh (ds ++ [])).results [] := fun b sp hd => by rw [hfn]; exact hresT b sp hd
  have hargs2 : ∀ sp : Nat → Bool, (∀ x ∈ p ++ [], sp x.block = true) → DataW.TrodAll enc P W' 0 sp true f.params.toList args.toList (s.fn Hh (ds ++ [])).args p := fun sp hsp => by rw [hfn]; exact hargs sp hsp
  have hvars2 : ∀ sp : Nat → Bool, DataW.TrodVars enc P W' sp s.vars (s.fn Hh (ds ++ [])).vars [] := fun sp => by rw [hfn, hvars]; rfl
  have hold : ∀ x ∈ p ++ [], (fun b => decide (b < W.heap.size)) x.block = true := fun x hx => by simpa using hlt x hx
  refine ⟨ds, [], p ++ [], [], p, [], hW', hres2 _ _ _, hargs2 _ hold, hvars2 _, Go.World.keptBut_mono (fun _ h => h.elim) hk, fun _ => ?_⟩
  refine ⟨ok_one hres rfl (okWide_bool_mk htb _), _, _, ([] ++ p) ++ [], ⟨[] ++ p, [], trodAll_append (hargs2 _ (fun _ _ => rfl)) (hres2 _ _ _), hvars2 _, rfl, ?_, ?_⟩, ?_⟩
  · intro b off hp
    rw [hfz' _ (hlt (.cell b off) (by simpa using hp))]
    exact hfz b off (by simpa using hp)
  · intro ha
    simpa using hnd ha
  · intro x hx _
    simpa using hx

end
end W

/-
  Arguments that were read are data.
-/
set_option linter.unusedSimpArgs false
set_option linter.unusedVariables false
namespace W
open Go (World Value Addr IntKind Program TypeId FuncId Operand Act Oper Next Result Sem Ending Exit Code Func DataW MemPlace Calls TypeDesc Lit)

mutual
def D.bulk : D → Nat
  | .s x => x.length + 1
  | .sl xs => D.bulks xs + 1
  | .agg cs => D.bulks cs + 1
  | _ => 1
def D.bulks : List D → Nat
  | [] => 0
  | x :: l => D.bulk x + D.bulks l
end

theorem bulks_append : ∀ (a b : List D), D.bulks (a ++ b) = D.bulks a + D.bulks b
  | [], b => by simp [D.bulks]
  | x :: a, b => by simp only [List.cons_append, D.bulks, bulks_append a b]; omega

def tiles (P : Program) : Nat → List Go.Field → Bool
  | _, [] => true
  | off, f :: l => f.offset == off && tiles P (off + P.cellsOf f.type) l
def sumCells (P : Program) : List Go.Field → Nat
  | [] => 0
  | f :: l => P.cellsOf f.type + sumCells P l

def cover1 (P : Program) (ts : List TypeId) (t : TypeId) : Bool :=
  match P.underlying t with
  | some .bool | some (.int _) | some .string => true
  | some (.slice e) => ts.contains e && Nat.blt 0 (P.cellsOf e)
  | some (.struct fs) => fs.toList.all (fun f => ts.contains f.type) && tiles P 0 fs.toList && Nat.beq (P.cellsOf t) (sumCells P fs.toList)
  | some (.array n e) => ts.contains e && Nat.beq (P.cellsOf t) (n * P.cellsOf e)
  | _ => false
/-- The types that reading comes to are these, all of kinds that are data. -/
def covers (P : Program) (ts : List TypeId) : Bool := ts.all (cover1 P ts)

def aggT (P : Program) (t : TypeId) : Bool :=
  match P.underlying t with
  | some (.struct _) | some (.array _ _) => true
  | _ => false

def elD : Bool → List D → D
  | true, xs => .agg xs
  | false, [x] => x
  | false, _ => .np

/-- Cells of a type. -/
def Ty (P : Program) : Nat → TypeId → List D → Prop
  | 0, _, _ => False
  | n + 1, t, xs => match P.underlying t with
    | some .bool => ∃ b, xs = [.b b]
    | some (.int k) => ∃ z, xs = [.i k z] ∧ (Lit.int k z).wf = true
    | some .string => ∃ s, xs = [.s s] ∧ s.length ≤ Go.maxLen ∧ ∀ c ∈ s, c < 256
    | some (.slice e) => xs = [.nil] ∨ ∃ yss : List (List D), xs = [.sl (yss.map (elD (aggT P e)))] ∧ yss.length ≤ Go.maxLen ∧ ∀ q ∈ yss, Ty P n e q
    | some (.struct fs) => ∃ yss : List (List D), xs = yss.flatten ∧ yss.length = fs.toList.length ∧ ∀ (i : Nat) (f : Go.Field) (q : List D), fs.toList[i]? = some f → yss[i]? = some q → Ty P n f.type q
    | some (.array m e) => ∃ yss : List (List D), xs = yss.flatten ∧ yss.length = m ∧ ∀ q ∈ yss, Ty P n e q
    | _ => False

/-- One argument of a type. -/
def Arg (P : Program) (t : TypeId) (x : D) : Prop := ∃ n xs, Ty P n t xs ∧ x = elD (aggT P t) xs

/-- What a measure of readings is. -/
structure Bulk {Hh : Type} (B : DataW Hh → Nat) (BA : List (DataW Hh) → Nat) : Prop where
  str : ∀ bytes, B (.lit (.string bytes)) = bytes.length + 1
  lit : ∀ l, 1 ≤ B (.lit l)
  nil : B .nil = 1
  sl : ∀ es sp, B (.slice es sp) = BA es + BA sp + 1
  agg : ∀ ps, B (.agg ps) = BA ps + 1
  n : BA [] = 0
  c : ∀ d r, BA (d :: r) = B d + BA r

def g0 (W : World) : Gh := { n := 0, φ := fun _ => 0, own := fun _ => none, pub := fun b => match W.heap[b]? with | some (.cells c _ _) => c.size | _ => 0 }

theorem glOk_nil {M : Maps} {g : Gh} {w : World} (h : M.gl = []) (h2 : M.gi = []) : GlOk M g w := ⟨(fun n x hn => by rw [h] at hn; cases hn), (fun n hn => by rw [h2] at hn; cases hn)⟩

theorem g0_relH (M : Maps) (W : World) (hgl : GlOk M (g0 W) W) : RelH M (g0 W) W [] := ⟨rfl, fun id o h => by simp at h, fun b hb => ⟨rfl, by
  show (match W.heap[b]? with | some (.cells c _ _) => c.size | _ => 0) = 0
  rw [Array.getElem?_eq_none hb]⟩, hgl⟩

theorem g0_evo {W W' : World} {g' : Gh} (h : Evo (g0 W) W g' W') : ∀ b, b < W.heap.size → W'.heap[b]? = W.heap[b]? := fun b hb => (h.keep b hb (.inl rfl)).2.1

theorem pub_of_cell {W : World} {b o : Nat} {v : Value} (h : W.cell? ⟨b, o, none⟩ = some v) : o < (g0 W).pub b := by
  simp only [World.cell?] at h
  show o < (match W.heap[b]? with | some (.cells c _ _) => c.size | _ => 0)
  split at h
  · rename_i c e f hq
    rw [hq]
    simp at h
    exact (Array.getElem?_eq_some_iff.1 h).1
  · cases h

theorem spot_of_cell {W : World} {a : Addr} {v : Value} (h : W.cell? a = some v) : a.spot = none := by
  simp only [World.cell?] at h
  split at h
  · cases hs : a.spot with
    | none => rfl
    | some s => simp [hs] at h
  · cases h

section
variable {P : Program} {Hh : Type} {enc : TypeId × Value → Hh} {W : World}

theorem RepDL.split {pub : Nat → Nat} {w : World} : ∀ {a : List (List D)} {b : List (List Value)}, a.length = b.length → (∀ (i : Nat) (q : List D) (r : List Value), a[i]? = some q → b[i]? = some r → RepDL pub w q r) → RepDL pub w a.flatten b.flatten
  | [], [], _, _ => .nil
  | q :: a, r :: b, hl, h => by
    simp only [List.flatten_cons]
    exact (h 0 q r rfl rfl).append (RepDL.split (by simpa using hl) (fun i q' r' hq hr => h (i + 1) q' r' (by simpa using hq) (by simpa using hr)))
  | [], _ :: _, hl, _ => by simp at hl
  | _ :: _, [], hl, _ => by simp at hl

/-- Fields side by side: all of the cells. -/
theorem tiles_flatten (cs : List Value) : ∀ (fs : List Go.Field) (off : Nat), tiles P off fs = true → (fs.map fun f => (cs.drop f.offset).take (P.cellsOf f.type)).flatten = (cs.drop off).take (sumCells P fs)
  | [], off, _ => by simp [sumCells]
  | f :: fs, off, h => by
    simp only [tiles, Bool.and_eq_true, beq_iff_eq] at h
    simp only [List.map_cons, List.flatten_cons, sumCells, tiles_flatten cs fs _ h.2, h.1]
    rw [List.take_add, List.drop_drop]

theorem array_flatten (cs : List Value) (sz : Nat) : ∀ n, ((List.range n).map fun i => (cs.drop (i * sz)).take sz).flatten = cs.take (n * sz)
  | 0 => by simp
  | n + 1 => by
    rw [List.range_succ, List.map_append, List.flatten_append, array_flatten cs sz n, Nat.succ_mul, List.take_add]
    simp

theorem ty_cells {n : Nat} {t : TypeId} {xs : List D} (h : Ty P n t xs) : (elD (aggT P t) xs).cells = xs := by
  cases n with
  | zero => exact h.elim
  | succ n =>
    unfold Ty at h
    unfold aggT
    split at h
    · rename_i hu; rw [hu]; obtain ⟨b, rfl⟩ := h; rfl
    · rename_i k hu; rw [hu]; obtain ⟨b, rfl, _⟩ := h; rfl
    · rename_i hu; rw [hu]; obtain ⟨b, rfl, _⟩ := h; rfl
    · rename_i e hu; rw [hu]
      rcases h with rfl | ⟨yss, rfl, _⟩ <;> rfl
    · rename_i fs hu; rw [hu]; rfl
    · rename_i m e hu; rw [hu]; rfl
    · exact h.elim

theorem ones_append {a b : List D} (h1 : D.ones a = true) (h2 : D.ones b = true) : D.ones (a ++ b) = true := by
  induction a with
  | nil => exact h2
  | cons q a ih => simp only [List.cons_append, D.ones, Bool.and_eq_true] at h1 ⊢; exact ⟨h1.1, ih h1.2⟩
theorem ones_flatten : ∀ {l : List (List D)}, (∀ q ∈ l, D.ones q = true) → D.ones l.flatten = true
  | [], _ => rfl
  | q :: l, h => ones_append (h q (by simp)) (ones_flatten fun r hr => h r (by simp [hr]))

theorem ty_ones : ∀ {n : Nat} {t : TypeId} {xs : List D}, Ty P n t xs → D.ones xs = true
  | 0, _, _, h => h.elim
  | n + 1, t, xs, h => by
    unfold Ty at h
    split at h
    · obtain ⟨b, rfl⟩ := h; rfl
    · obtain ⟨b, rfl, _⟩ := h; rfl
    · obtain ⟨b, rfl, _⟩ := h; rfl
    · rcases h with rfl | ⟨yss, rfl, _⟩ <;> rfl
    · obtain ⟨yss, rfl, hl, h⟩ := h
      refine ones_flatten fun q hq => ?_
      obtain ⟨i, hi⟩ := List.getElem?_of_mem hq
      have hlt := (List.getElem?_eq_some_iff.1 hi).1
      rename_i fs hu
      exact ty_ones (h i (fs.toList[i]'(by omega)) q (by simp [hl ▸ hlt]) hi)
    · obtain ⟨yss, rfl, hl, h⟩ := h
      exact ones_flatten fun q hq => ty_ones (h q hq)
    · exact h.elim

end
end W

/-
  Arguments that were read are data: the reading itself.
-/
set_option linter.unusedSimpArgs false
set_option linter.unusedVariables false
namespace W
open Go (World Value Addr IntKind Program TypeId FuncId Operand Act Oper Next Result Sem Ending Exit Code Func DataW MemPlace Calls TypeDesc Lit)

theorem exists_list {α : Type} {R : Nat → α → Prop} : ∀ (n : Nat), (∀ i, i < n → ∃ a, R i a) → ∃ l : List α, l.length = n ∧ ∀ (i : Nat) (a : α), l[i]? = some a → R i a
  | 0, _ => ⟨[], rfl, fun i a h => by simp at h⟩
  | n + 1, h => by
    obtain ⟨l, h1, h2⟩ := exists_list n (fun i hi => h i (by omega))
    obtain ⟨a, ha⟩ := h n (by omega)
    refine ⟨l ++ [a], by simp [h1], fun i b hb => ?_⟩
    rw [List.getElem?_append] at hb
    split at hb
    · exact h2 i b hb
    · rename_i hge
      have hi : i - l.length = 0 := by
        rcases Nat.eq_zero_or_pos (i - l.length) with h0 | h0
        · exact h0
        · rw [List.getElem?_eq_none (by simp; omega)] at hb; cases hb
      rw [hi] at hb
      simp only [List.getElem?_cons_zero, Option.some.injEq] at hb
      subst hb
      rwa [show i = n by omega]

theorem flatten_get {α : Type} {c : Nat} : ∀ (l : List (List α)), (∀ q ∈ l, q.length = c) → ∀ (j : Nat) (v : α), l.flatten[j]? = some v → ∃ i r q, j = i * c + r ∧ l[i]? = some q ∧ q[r]? = some v
  | [], _, j, v, h => by simp at h
  | q :: l, hc, j, v, h => by
    have hq := hc q (by simp)
    rw [List.flatten_cons, List.getElem?_append] at h
    split at h
    · exact ⟨0, j, q, by simp, rfl, h⟩
    · rename_i hge
      obtain ⟨i, r, q', h1, h2, h3⟩ := flatten_get l (fun x hx => hc x (by simp [hx])) _ v h
      exact ⟨i + 1, r, q', by rw [Nat.succ_mul]; omega, by simpa using h2, h3⟩

theorem flatten_length {α : Type} {c : Nat} : ∀ (l : List (List α)), (∀ q ∈ l, q.length = c) → l.flatten.length = l.length * c
  | [], _ => by simp
  | q :: l, hc => by
    rw [List.flatten_cons, List.length_append, hc q (by simp), flatten_length l (fun x hx => hc x (by simp [hx])), List.length_cons, Nat.succ_mul]; omega

section
variable {P : Program} {Hh : Type} {enc : TypeId × Value → Hh} {W : World}

theorem bulk_el {n : Nat} {t : TypeId} {q : List D} (h : Ty P n t q) {b : Nat} (hb : D.bulks q + (if aggT P t then 1 else 0) ≤ b) : D.bulk (elD (aggT P t) q) ≤ b := by
  cases ha : aggT P t with
  | true => rw [ha] at hb; simpa [elD, D.bulk] using hb
  | false =>
    rw [ha] at hb
    have h1 := ty_cells h
    rw [ha] at h1
    match q, h1, hb with
    | [x], _, hb => simpa [elD, D.bulks] using hb
    | [], h1, _ => simp [elD, D.cells] at h1
    | x :: y :: l, h1, _ => simp [elD, D.cells] at h1

theorem bulks_le {B : DataW Hh → Nat} {BA : List (DataW Hh) → Nat} (hB : Bulk B BA) : ∀ {ys : List D} {ds : List (DataW Hh)}, ys.length = ds.length → (∀ (i : Nat) (y : D) (d : DataW Hh), ys[i]? = some y → ds[i]? = some d → D.bulk y ≤ B d) → D.bulks ys ≤ BA ds
  | [], [], _, _ => by simp [D.bulks]
  | y :: ys, d :: ds, hl, h => by
    rw [hB.c, D.bulks]
    have h1 := h 0 y d rfl rfl
    have h2 := bulks_le hB (ys := ys) (ds := ds) (by simpa using hl) (fun i y d hy hd => h (i + 1) y d (by simpa using hy) (by simpa using hd))
    omega
  | [], _ :: _, hl, _ => by simp at hl
  | _ :: _, [], hl, _ => by simp at hl

theorem bulks_flat_le {B : DataW Hh → Nat} {BA : List (DataW Hh) → Nat} (hB : Bulk B BA) : ∀ {ys : List (List D)} {ds : List (DataW Hh)}, ys.length = ds.length → (∀ (i : Nat) (y : List D) (d : DataW Hh), ys[i]? = some y → ds[i]? = some d → D.bulks y ≤ B d) → D.bulks ys.flatten ≤ BA ds
  | [], [], _, _ => by simp [D.bulks]
  | y :: ys, d :: ds, hl, h => by
    rw [hB.c, List.flatten_cons, bulks_append]
    have h1 := h 0 y d rfl rfl
    have h2 := bulks_flat_le hB (ys := ys) (ds := ds) (by simpa using hl) (fun i y d hy hd => h (i + 1) y d (by simpa using hy) (by simpa using hd))
    omega
  | [], _ :: _, hl, _ => by simp at hl
  | _ :: _, [], hl, _ => by simp at hl

theorem cells_spec {a : Addr} {n : Nat} {cs : List Value} (h : W.cells? 0 a n = some cs) : cs.length = n ∧ ∀ (i : Nat) (v : Value), cs[i]? = some v → W.cell? (a.add i) = some v := by
  unfold World.cells? at h
  simp only [Nat.zero_le, if_true] at h
  have hl := Go.mapM_some_length h
  refine ⟨by simpa using hl, fun i v hv => ?_⟩
  have hi : i < n := by
    have := (List.getElem?_eq_some_iff.1 hv).1
    rw [hl] at this; simpa using this
  have := Go.mapM_some_get h i i (by simp [hi])
  rw [this, hv]

theorem bulks_sl (ys : List D) : D.bulks [.sl ys] = D.bulks ys + 1 := by simp [D.bulks, D.bulk]

theorem trod_rep {ts : List TypeId} (hts : covers P ts = true) {B : DataW Hh → Nat} {BA : List (DataW Hh) → Nat} (hB : Bulk B BA) : ∀ (n : Nat) (t : TypeId) (cs : List Value) (x : DataW Hh × List MemPlace), t ∈ ts →
    DataW.trod enc P W 0 (fun _ => true) true n t cs = some x → ∃ xs, Ty P n t xs ∧ RepDL (g0 W).pub W xs cs ∧ D.bulks xs + (if aggT P t then 1 else 0) ≤ B x.1
  | 0, t, cs, x, _, h => by simp [DataW.trod] at h
  | n + 1, t, cs, x, ht, h => by
    have hcov : cover1 P ts t = true := by
      simp only [covers, List.all_eq_true] at hts
      exact hts t ht
    unfold cover1 at hcov
    unfold Ty aggT
    split at hcov
    · -- bool
      rename_i hu
      obtain ⟨b, rfl, rfl⟩ := DataW.trod_bool hu h
      rw [hu]
      exact ⟨[.b b], ⟨b, rfl⟩, .cons _ _ _ _ (.b b) .nil, by have := hB.lit (.bool b); simpa [D.bulks, D.bulk] using this⟩
    · rename_i k hu
      obtain ⟨z, rfl, rfl, hw⟩ := DataW.trod_int hu h
      rw [hu]
      exact ⟨[.i k z], ⟨z, rfl, hw⟩, .cons _ _ _ _ (.i k z) .nil, by have := hB.lit (.int k z); simpa [D.bulks, D.bulk] using this⟩
    · rename_i hu
      obtain ⟨z, rfl, rfl, hm⟩ := DataW.trod_string hu h
      rw [hu]
      have hl : (z.data.toList.map (·.toNat)).length = z.size := by simp
      refine ⟨[.s (z.data.toList.map (·.toNat))], ⟨_, rfl, by rw [hl]; exact hm, fun c hc => ?_⟩, .cons _ _ _ _ (.s _ z rfl) .nil, ?_⟩
      · obtain ⟨b, _, rfl⟩ := List.mem_map.1 hc
        exact b.toNat_lt
      · simp only [D.bulks, D.bulk, hB.str]
        simp
    · -- slice
      rename_i e hu
      simp only [Bool.and_eq_true, List.contains_iff_mem, Nat.blt_eq] at hcov
      obtain ⟨he, hpos⟩ := hcov
      rw [hu]
      rcases DataW.trod_slice hu h with ⟨rfl, rfl⟩ | ⟨a, len, cap, elems, rest, m, hm, rfl, rfl, hb, hlc, hcap, hlen, hel, _, _⟩
      · exact ⟨[.nil], .inl rfl, .cons _ _ _ _ .nil .nil, by rw [hB.nil]; simp [D.bulks, D.bulk]⟩
      · cases hm
        -- each element
        obtain ⟨l, hl1, hl2⟩ := exists_list (R := fun i (p : List D × List Value) => ∃ y, elems[i]? = some y ∧ W.cells? 0 (a.add (i * P.cellsOf e)) (P.cellsOf e) = some p.2 ∧ Ty P n e p.1 ∧ RepDL (g0 W).pub W p.1 p.2 ∧ D.bulks p.1 + (if aggT P e then 1 else 0) ≤ B y.1) len (fun i hi => by
          have h1 := hel i hi
          rw [List.getElem?_eq_getElem (by omega)] at h1
          obtain ⟨cs', h2, h3⟩ := Option.bind_eq_some_iff.1 h1
          obtain ⟨xs, h4, h5, h6⟩ := trod_rep hts hB n e cs' _ he h3
          exact ⟨(xs, cs'), _, List.getElem?_eq_getElem (by omega), h2, h4, h5, h6⟩)
        have htys : ∀ q ∈ l.map (·.1), Ty P n e q := fun q hq => by
          obtain ⟨p, hp, rfl⟩ := List.mem_map.1 hq
          obtain ⟨i, hi⟩ := List.getElem?_of_mem hp
          obtain ⟨y, _, _, h4, _⟩ := hl2 i p hi
          exact h4
        have hbulk : D.bulks ((l.map (·.1)).map (elD (aggT P e))) ≤ BA (elems.map (·.1)) := by
          refine bulks_le hB (by simp [hl1, hlen]) (fun i y d hy hd => ?_)
          simp only [List.getElem?_map, Option.map_map, Option.map_eq_some_iff] at hy hd
          obtain ⟨p, hp, rfl⟩ := hy
          obtain ⟨z, hz, rfl⟩ := hd
          obtain ⟨y, h1, _, h4, _, h6⟩ := hl2 i p hp
          rw [hz] at h1
          cases h1
          exact bulk_el h4 h6
        refine ⟨[.sl ((l.map (·.1)).map (elD (aggT P e)))], .inr ⟨l.map (·.1), rfl, by simp only [List.length_map, hl1]; omega, htys⟩, .cons _ _ _ _ ?_ .nil, ?_⟩
        · cases hle : l with
          | nil =>
            rw [hle] at hl1
            simp at hl1
            subst hl1
            exact .sl0 a cap
          | cons p0 l' =>
            rw [← hle]
            have hlpos : 0 < len := by rw [← hl1, hle]; simp
            have hcl : ∀ p ∈ l, p.2.length = P.cellsOf e := fun p hp => by
              obtain ⟨i, hi⟩ := List.getElem?_of_mem hp
              obtain ⟨y, _, h2, _⟩ := hl2 i p hi
              exact (cells_spec h2).1
            have hcell : ∀ i p, l[i]? = some p → ∀ r v, p.2[r]? = some v → W.cell? ((a.add (i * P.cellsOf e)).add r) = some v := fun i p hi r v hv => by
              obtain ⟨y, _, h2, _⟩ := hl2 i p hi
              exact (cells_spec h2).2 r v hv
            have hspot : a.spot = none := by
              have h0 : l[0]? = some p0 := by rw [hle]; rfl
              have hp0 := hcl p0 (by rw [hle]; simp)
              have hlt : 0 < p0.2.length := by omega
              have := spot_of_cell (hcell 0 p0 h0 0 p0.2[0] (by simp [hlt]))
              rw [Nat.zero_mul] at this
              unfold Addr.add at this
              simpa using this
            obtain ⟨b, off, sp⟩ := a
            simp only at hspot
            subst hspot
            have hvlen : (l.map (·.2)).flatten.length = len * P.cellsOf e := by
              rw [flatten_length _ (fun q hq => by obtain ⟨p, hp, rfl⟩ := List.mem_map.1 hq; exact hcl p hp)]; simp [hl1]
            have hflat : ((l.map (·.1)).map (elD (aggT P e))).flatMap D.cells = (l.map (·.1)).flatten := by
              rw [List.flatMap_map, List.flatMap_def]
              congr 1
              rw [List.map_congr_left (g := id)]
              · simp
              · intro q hq; exact ty_cells (htys q hq)
            have hrep : RepDL (g0 W).pub W (((l.map (·.1)).map (elD (aggT P e))).flatMap D.cells) (l.map (·.2)).flatten := by
              rw [hflat]
              refine RepDL.split (by simp) (fun i q r hq hr => ?_)
              simp only [List.getElem?_map, Option.map_eq_some_iff] at hq hr
              obtain ⟨p, hp, rfl⟩ := hq
              obtain ⟨p', hp', rfl⟩ := hr
              rw [hp] at hp'
              cases hp'
              obtain ⟨y, _, _, _, h5, _⟩ := hl2 i p hp
              exact h5
            have hcs : ∀ j v, (l.map (·.2)).flatten[j]? = some v → W.cell? ⟨b, off + j, none⟩ = some v := fun j v hj => by
              obtain ⟨i, r, q, h1, h2, h3⟩ := flatten_get _ (fun q hq => by obtain ⟨p, hp, rfl⟩ := List.mem_map.1 hq; exact hcl p hp) j v hj
              simp only [List.getElem?_map, Option.map_eq_some_iff] at h2
              obtain ⟨p, hp, rfl⟩ := h2
              have := hcell i p hp r v h3
              rw [add_none, add_none] at this
              rw [h1, ← Nat.add_assoc]; exact this
            have hlenD : ((l.map (·.1)).map (elD (aggT P e))).length = len := by simp [hl1]
            have hsl := RepD.sl (pub := (g0 W).pub) (w := W) ((l.map (·.1)).map (elD (aggT P e))) b off cap (P.cellsOf e) (l.map (·.2)).flatten (by rw [hle]; simp) (fun x hx => ?_) hrep hcs ?_ (by rw [hlenD]; exact hlc) ?_
            · rw [hlenD] at hsl; exact hsl
            · obtain ⟨q, hq, rfl⟩ := List.mem_map.1 hx
              rw [ty_cells (htys q hq)]
              obtain ⟨p, hp, rfl⟩ := List.mem_map.1 hq
              obtain ⟨i, hi⟩ := List.getElem?_of_mem hp
              obtain ⟨y, _, _, _, h5, _⟩ := hl2 i p hi
              rw [h5.length]; exact hcl p hp
            · have hp : 0 < len * P.cellsOf e := Nat.mul_pos hlpos hpos
              have hlt : (l.map (·.2)).flatten.length - 1 < (l.map (·.2)).flatten.length := by rw [hvlen]; omega
              have := pub_of_cell (hcs _ _ (List.getElem?_eq_getElem hlt))
              rw [hvlen] at this ⊢
              omega
            · refine hrep.ones ?_
              rw [hflat]
              exact ones_flatten fun q hq => ty_ones (htys q hq)
        · rw [bulks_sl, hB.sl]
          simp only [Bool.false_eq_true, if_false]
          omega
    · -- struct
      rename_i fs hu
      simp only [Bool.and_eq_true, List.all_eq_true, List.contains_iff_mem, Nat.beq_eq] at hcov
      obtain ⟨⟨hf, htile⟩, hsum⟩ := hcov
      obtain ⟨ys, m, hm, rfl, hlc, hlen, hel⟩ := DataW.trod_struct hu h
      cases hm
      rw [hu]
      obtain ⟨l, hl1, hl2⟩ := exists_list (R := fun i (p : List D) => ∃ f y, fs[i]? = some f ∧ ys[i]? = some y ∧ Ty P n f.type p ∧ RepDL (g0 W).pub W p ((cs.drop f.offset).take (P.cellsOf f.type)) ∧ D.bulks p + (if aggT P f.type then 1 else 0) ≤ B y.1) fs.size (fun i hi => by
        have hfi : fs[i]? = some fs[i] := by simp [hi]
        have h1 := hel i fs[i] hfi
        rw [List.getElem?_eq_getElem (by omega)] at h1
        obtain ⟨xs, h4, h5, h6⟩ := trod_rep hts hB n _ _ _ (hf fs[i] (by simp)) h1
        exact ⟨xs, fs[i], _, hfi, List.getElem?_eq_getElem (by omega), h4, h5, h6⟩)
      refine ⟨l.flatten, ⟨l, rfl, by simp [hl1], fun i f q hfi hq => ?_⟩, ?_, ?_⟩
      · obtain ⟨f', y, h1, h2, h3, _⟩ := hl2 i q hq
        have : fs[i]? = some f := by simpa using hfi
        rw [h1] at this; cases this
        exact h3
      · have hall : cs = (fs.toList.map fun f => (cs.drop f.offset).take (P.cellsOf f.type)).flatten := by
          rw [tiles_flatten cs _ 0 htile, ← hsum, ← hlc]; simp
        rw [hall]
        refine RepDL.split (by simp [hl1]) (fun i q r hq hr => ?_)
        simp only [List.getElem?_map, Option.map_eq_some_iff] at hr
        obtain ⟨f, hfi, rfl⟩ := hr
        obtain ⟨f', y, h1, h2, h3, h4, _⟩ := hl2 i q hq
        have : fs[i]? = some f := by simpa using hfi
        rw [h1] at this; cases this
        exact h4
      · simp only [hB.agg, if_true]
        have := bulks_flat_le hB (ys := l) (ds := ys.map (·.1)) (by simp [hl1, hlen]) (fun i q d hq hd => by
          simp only [List.getElem?_map, Option.map_eq_some_iff] at hd
          obtain ⟨z, hz, rfl⟩ := hd
          obtain ⟨f', y, h1, h2, h3, h4, h5⟩ := hl2 i q hq
          rw [hz] at h2; cases h2
          omega)
        omega
    · -- array
      rename_i k e hu
      simp only [Bool.and_eq_true, List.contains_iff_mem, Nat.beq_eq] at hcov
      obtain ⟨he, hsum⟩ := hcov
      obtain ⟨ys, m, hm, rfl, hlc, hlen, hel⟩ := DataW.trod_array hu h
      cases hm
      rw [hu]
      obtain ⟨l, hl1, hl2⟩ := exists_list (R := fun i (p : List D) => ∃ y, ys[i]? = some y ∧ Ty P n e p ∧ RepDL (g0 W).pub W p ((cs.drop (i * P.cellsOf e)).take (P.cellsOf e)) ∧ D.bulks p + (if aggT P e then 1 else 0) ≤ B y.1) k (fun i hi => by
        have h1 := hel i hi
        rw [List.getElem?_eq_getElem (by omega)] at h1
        obtain ⟨xs, h4, h5, h6⟩ := trod_rep hts hB n _ _ _ he h1
        exact ⟨xs, _, List.getElem?_eq_getElem (by omega), h4, h5, h6⟩)
      refine ⟨l.flatten, ⟨l, rfl, hl1, fun q hq => ?_⟩, ?_, ?_⟩
      · obtain ⟨i, hi⟩ := List.getElem?_of_mem hq
        obtain ⟨y, h2, h3, _⟩ := hl2 i q hi
        exact h3
      · have hall : cs = ((List.range k).map fun i => (cs.drop (i * P.cellsOf e)).take (P.cellsOf e)).flatten := by
          rw [array_flatten, ← hsum, ← hlc]; simp
        rw [hall]
        refine RepDL.split (by simp [hl1]) (fun i q r hq hr => ?_)
        simp only [List.getElem?_map, Option.map_eq_some_iff] at hr
        obtain ⟨i', hi', rfl⟩ := hr
        have hik : i < k := by rw [← hl1]; exact (List.getElem?_eq_some_iff.1 hq).1
        rw [List.getElem?_range hik] at hi'
        cases hi'
        obtain ⟨y, h2, h3, h4, _⟩ := hl2 i q hq
        exact h4
      · simp only [hB.agg, if_true]
        have := bulks_flat_le hB (ys := l) (ds := ys.map (·.1)) (by simp [hl1, hlen]) (fun i q d hq hd => by
          simp only [List.getElem?_map, Option.map_eq_some_iff] at hd
          obtain ⟨z, hz, rfl⟩ := hd
          obtain ⟨y, h2, h3, h4, h5⟩ := hl2 i q hq
          rw [hz] at h2; cases h2
          omega)
        omega
    · cases hcov

end
end W

/-
  A law's contract from runs of the small semantics, one for every way that its arguments may read.
-/
set_option linter.unusedSimpArgs false
set_option linter.unusedVariables false
namespace W
open Go (World Value Addr IntKind Program TypeId FuncId Operand Act Oper Next Result Sem Ending Exit Code Func DataW MemPlace Calls TypeDesc Lit)
open Go.ChangeShapes Go.RowKit

section
variable {P : Program} {Hh : Type} {enc : TypeId × Value → Hh} {W : World} {M : Maps}

theorem form_ok {r : Go.Reach} {b : Nat} {t : TypeId} {v : Value} (hv : Value.okWide P W r b t v) : (aggT P t = true → ∃ cs, v = .agg cs) ∧
    (aggT P t = false → (∃ d, P.underlying t = some d ∧ (d = .bool ∨ (∃ k, d = .int k) ∨ d = .string ∨ ∃ e, d = .slice e)) → v.cells.toList = [v]) := by
  unfold Value.okWide at hv
  unfold aggT
  split at hv
  · rename_i hu
    rw [hu]
    obtain ⟨cs, rfl, _⟩ := hv
    exact ⟨fun _ => ⟨cs, rfl⟩, fun h => by cases h⟩
  · rename_i hu
    rw [hu]
    obtain ⟨cs, rfl, _⟩ := hv
    exact ⟨fun _ => ⟨cs, rfl⟩, fun h => by cases h⟩
  · rename_i h1 h2
    refine ⟨fun h => ?_, fun _ ⟨d, hu, hd⟩ => ?_⟩
    · exfalso
      split at h
      · rename_i hu; exact h1 _ hu
      · rename_i hu; exact h2 _ _ hu
      · cases h
    · cases v with
      | agg cs => rcases hd with rfl | ⟨k, rfl⟩ | rfl | ⟨e, rfl⟩ <;> simp [Go.Cell.okWide, Go.Cell.ok, hu] at hv
      | _ => rfl

theorem arg_rep {ts : List TypeId} (hts : covers P ts = true) {B : DataW Hh → Nat} {BA : List (DataW Hh) → Nat} (hB : Bulk B BA) {r : Go.Reach} {b : Nat} {t : TypeId} {v : Value} {d : DataW Hh} {ps : List MemPlace} (ht : t ∈ ts)
    (hv : Value.okWide P W r b t v) (h : DataW.Trod enc P W 0 (fun _ => true) true t v d ps) : ∃ x, Arg P t x ∧ RepS M (g0 W) W (.d x) v ∧ D.bulk x ≤ B d := by
  obtain ⟨n, hn⟩ := h
  obtain ⟨xs, h1, h2, h3⟩ := trod_rep hts hB n t _ _ ht hn
  refine ⟨elD (aggT P t) xs, ⟨n, xs, h1, rfl⟩, ?_, bulk_el h1 h3⟩
  obtain ⟨f1, f2⟩ := form_ok hv
  cases ha : aggT P t with
  | true =>
    obtain ⟨cs, rfl⟩ := f1 ha
    exact .d _ _ (.agg xs cs h2)
  | false =>
    have hcov : cover1 P ts t = true := by
      simp only [covers, List.all_eq_true] at hts
      exact hts t ht
    have hc := f2 ha (by
      unfold cover1 at hcov
      split at hcov
      · rename_i hu; exact ⟨_, hu, .inl rfl⟩
      · rename_i hu; exact ⟨_, hu, .inr (.inl ⟨_, rfl⟩)⟩
      · rename_i hu; exact ⟨_, hu, .inr (.inr (.inl rfl))⟩
      · rename_i hu; exact ⟨_, hu, .inr (.inr (.inr ⟨_, rfl⟩))⟩
      · rename_i hu; simp [aggT, hu] at ha
      · rename_i hu; simp [aggT, hu] at ha
      · cases hcov)
    rw [hc] at h2
    cases h2 with
    | cons x _ l _ hx hl =>
      cases hl
      exact .d _ _ hx

theorem args_rep {ts : List TypeId} (hts : covers P ts = true) {B : DataW Hh → Nat} {BA : List (DataW Hh) → Nat} (hB : Bulk B BA) {r : Go.Reach} {b : Nat} : ∀ {tys : List TypeId} {vs : List Value} {ds : List (DataW Hh)} {ps : List MemPlace} (j : Nat),
    (∀ t ∈ tys, t ∈ ts) → (∀ (i : Nat) t v, tys[i]? = some t → vs[i]? = some v → Value.okWide P W r b t v) → DataW.TrodAll enc P W 0 (fun _ => true) true tys vs ds ps →
    ∃ xs : List D, All2 (Arg P) tys xs ∧ ArgsRep M (g0 W) W j (xs.map .d) vs ∧ D.bulks xs ≤ BA ds
  | [], vs, ds, ps, j, _, _, h => by
    obtain ⟨rfl, rfl, rfl⟩ := trodAll_nil h
    exact ⟨[], .nil, .nil j, by simp [D.bulks]⟩
  | t :: tys, vs, ds, ps, j, ht, hv, h => by
    obtain ⟨v, vs', d, ds', p, q, rfl, rfl, rfl, hd, hrest⟩ := trodAll_cons h
    obtain ⟨x, h1, h2, h3⟩ := arg_rep (M := M) hts hB (ht t (by simp)) (hv 0 t v rfl rfl) hd
    obtain ⟨xs, h4, h5, h6⟩ := args_rep hts hB (j + 1) (fun u hu => ht u (by simp [hu])) (fun i u w' hu hw => hv (i + 1) u w' (by simpa using hu) (by simpa using hw)) hrest
    refine ⟨x :: xs, .cons h1 h4, .cons (.s h2) h5, ?_⟩
    rw [hB.c, D.bulks]
    omega

/-- ████ A LAW's CONTRACT ████ -/
theorem law_contract {f : Func} {fid : FuncId} {s : Go.ChangeSpec} {apart fresh handsOn again : Bool} {args : Array Value} {ds gs : List (DataW Hh)} {before : List MemPlace} {tb : TypeId} {ts : List TypeId} {pg : Pg} {i : Nat} {r : Go.Reach} {b : Nat}
    (hgl : GlOk M (g0 W) W) (hm : P.follows .mixedOrders = true) (hT : Tab P M pg) (hx : CallSim P M pg.ext) (hxlo : CallLo pg.ext) (hlook : look M.fm fid = some i) (hext : pg.fn i ≠ none)
    (hts : covers P ts = true) (hpar : ∀ t ∈ f.params.toList, t ∈ ts) {B : DataW Hh → Nat} {BA : List (DataW Hh) → Nat} (hB : Bulk B BA)
    (hval : ∀ (j : Nat) t v, f.params[j]? = some t → args[j]? = some v → Value.okWide P W r b t v)
    (hvars : s.vars = []) (hW : DataW.Whole enc P f.params.toList s.vars apart W args.toList ds gs before) (hs : s.fn Hh ds = { results := [.lit (.bool true)], args := ds }) (hres : f.resultTypes = #[tb]) (htb : P.underlying tb = some .bool)
    (hl : Go.laidOutB P = true) (hread : ∀ t ∈ f.params.toList, P.readableRec t = true ∧ t < P.types.size)
    (run : ∀ xs : List D, All2 (Arg P) f.params.toList xs → D.bulks xs ≤ BA ds → ∃ n r, callN pg n i (xs.map .d) [] = some r ∧ r.pan = false ∧ r.v = .d (.b true)) :
    Calls P fid args W fun e W' => ∃ v, e = .returned v ∧ s.post enc P f apart fresh handsOn again W args v W' := by
  have hW' := hW
  obtain ⟨p, q, hA, hV, rfl, hfz, hnd⟩ := hW
  obtain ⟨xs, h1, h2, h3⟩ := args_rep (M := M) hts hB 0 hpar (fun j t v ht hv => hval j t v (by simpa using ht) (by simpa using hv)) hA
  obtain ⟨n, q2, hrun, hp, hv⟩ := run xs h1 h3
  have hc := sound_calls hm hT hx hxlo hrun hlook hext h2 (g0_relH M W hgl)
  have ha : args.toList.toArray = args := by simp
  rw [ha] at hc
  refine hc.mono (fun e W' he => ?_)
  cases e with
  | returned v =>
    obtain ⟨_, g', hH, hE, hr⟩ := he
    rw [hv] at hr
    have hvb : v = .bool true := by
      cases hr with
      | s h => cases h with
        | d _ _ h => cases h; rfl
    subst hvb
    exact ⟨_, rfl, law_post hvars hW' hs hres htb hl hread hE.io (g0_evo hE)⟩
  | panicked ch =>
    obtain ⟨h, _⟩ := he
    rw [hp] at h; cases h
  | outgrown => exact he.elim

end
end W

/-
  What arguments read as, kind by kind.
-/
set_option linter.unusedSimpArgs false
set_option linter.unusedVariables false
namespace W
open Go (World Value Addr IntKind Program TypeId FuncId Func DataW MemPlace TypeDesc Lit)

theorem look_id {n a b : Nat} (h : look ((List.range n).map fun i => (i, i)) a = some b) : a = b := by
  have key : ∀ (l : List Nat), look (l.map fun i => (i, i)) a = some b → a = b := by
    intro l
    induction l with
    | nil => intro h; cases h
    | cons x l ih =>
      intro h
      simp only [List.map_cons, look, Bool.cond_eq_ite] at h
      split at h
      · rename_i hb
        cases h
        exact Nat.eq_of_beq_eq_true hb
      · exact ih h
  exact key _ h

variable {P : Program} {t e : TypeId} {x : D}

theorem arg_int {k : IntKind} (hu : P.underlying t = some (.int k)) (h : Arg P t x) : ∃ z, x = .i k z ∧ (Lit.int k z).wf = true := by
  obtain ⟨n, xs, ht, rfl⟩ := h
  cases n with
  | zero => exact ht.elim
  | succ n =>
    simp only [Ty, hu] at ht
    obtain ⟨z, rfl, hw⟩ := ht
    exact ⟨z, by simp [aggT, hu, elD], hw⟩
theorem arg_bool (hu : P.underlying t = some .bool) (h : Arg P t x) : ∃ z, x = .b z := by
  obtain ⟨n, xs, ht, rfl⟩ := h
  cases n with
  | zero => exact ht.elim
  | succ n =>
    simp only [Ty, hu] at ht
    obtain ⟨z, rfl⟩ := ht
    exact ⟨z, by simp [aggT, hu, elD]⟩
theorem arg_str (hu : P.underlying t = some .string) (h : Arg P t x) : ∃ s, x = .s s ∧ s.length ≤ Go.maxLen ∧ ∀ c ∈ s, c < 256 := by
  obtain ⟨n, xs, ht, rfl⟩ := h
  cases n with
  | zero => exact ht.elim
  | succ n =>
    simp only [Ty, hu] at ht
    obtain ⟨z, rfl, hw⟩ := ht
    exact ⟨z, by simp [aggT, hu, elD], hw⟩
theorem arg_slice (hu : P.underlying t = some (.slice e)) (h : Arg P t x) : x = .nil ∨ ∃ l : List D, x = .sl l ∧ l.length ≤ Go.maxLen ∧ ∀ y ∈ l, Arg P e y := by
  obtain ⟨n, xs, ht, rfl⟩ := h
  cases n with
  | zero => exact ht.elim
  | succ n =>
    simp only [Ty, hu] at ht
    rcases ht with rfl | ⟨yss, rfl, hl, hy⟩
    · exact .inl (by simp [aggT, hu, elD])
    · refine .inr ⟨yss.map (elD (aggT P e)), by simp [aggT, hu, elD], by simpa using hl, fun y hm => ?_⟩
      obtain ⟨q, hq, rfl⟩ := List.mem_map.1 hm
      exact ⟨n, q, hy q hq, rfl⟩
theorem map_of {α : Type} {f : α → D} : ∀ {l : List D}, (∀ y ∈ l, ∃ a, y = f a) → ∃ L : List α, l = L.map f
  | [], _ => ⟨[], rfl⟩
  | y :: l, h => by
    obtain ⟨a, ha⟩ := h y (by simp)
    obtain ⟨L, hL⟩ := map_of (l := l) (fun z hz => h z (by simp [hz]))
    exact ⟨a :: L, by simp [ha, hL]⟩

/-- A slice that came in. -/
inductive SlD {α : Type} (e : α → D) : D → List α → Prop
  | nil : SlD e .nil []
  | sl (L : List α) : SlD e (.sl (L.map e)) L
theorem SlD.len {α : Type} {e : α → D} {x : D} {L : List α} (h : SlD e x L) {H : List Obj} : lenV .lenL (.d x) H = some (.d (.i .i64 L.length)) := by
  cases h with
  | nil => rfl
  | sl => simp [lenV]
theorem SlD.ix {α : Type} {e : α → D} {x : D} {L : List α} (h : SlD e x L) {k : IntKind} {n size : Nat} {y : α} (he : (e y).cells.length = size) (hn : L[n]? = some y) : iaV (.d x) (.d (.i k (n : Nat))) size none = some (.cp (e y)) := by
  cases h with
  | nil => simp at hn
  | sl => exact iaV_sl (by omega) (by simp [hn]) (by simp [he])
theorem arg_sl {α : Type} {f : α → D} (hu : P.underlying t = some (.slice e)) (h : Arg P t x) (he : ∀ y, Arg P e y → ∃ a, y = f a) : ∃ L, SlD f x L := by
  rcases arg_slice hu h with rfl | ⟨l, rfl, _, hl⟩
  · exact ⟨[], .nil⟩
  · obtain ⟨L, rfl⟩ := map_of (f := f) (fun y hy => he y (hl y hy))
    exact ⟨L, .sl L⟩

end W

/-
  Tables that the rows list are what the small semantics reads.
-/
set_option linter.unusedSimpArgs false
set_option linter.unusedVariables false
namespace W
open Go (World Value Addr IntKind Program TypeId FuncId Func DataW MemPlace Lit)

theorem cell_size {W : World} {b i : Nat} {v : Value} (h : W.cell? ⟨b, i, none⟩ = some v) : i < (g0 W).pub b := by
  show i < (match W.heap[b]? with | some (.cells c _ _) => c.size | _ => 0)
  simp only [World.cell?] at h
  split at h
  · rename_i c t f hb
    rw [hb]
    simp only [Option.isSome_none, Bool.false_eq_true, if_false] at h
    exact (Array.getElem?_eq_some_iff.1 h).1
  · cases h

theorem rep_ints {pub : Nat → Nat} {w : World} (k : IntKind) : ∀ zs : List Int, RepDL pub w (zs.map (D.i k)) (zs.map fun z => Value.int k z)
  | [] => .nil
  | z :: zs => .cons _ _ _ _ (.i k z) (rep_ints k zs)

/-- A table anywhere on the list. -/
theorem tabIs_mem {P : Program} {W : World} {name : String} {k : IntKind} {zs : List Int} {g : Nat} {t e : TypeId} {n : Nat}
    (hg : P.globalNamed name = some g) (hty : (P.globals[g]?).map (·.type) = some t) (ht : P.underlying t = some (.array n e)) (he : P.underlying e = some (.int k)) (hce : P.cellsOf e = 1) (hct : P.cellsOf t = n) :
    ∀ {laid : List (String × DataW Unit)} {ps : List MemPlace}, DataW.LaidVars P W laid ps → (name, Go.Lib.tabData k zs) ∈ laid → Go.Lib.TabIs P W name k zs
  | [], _, _, hm => by cases hm
  | (nm, d) :: rest, ps, h, hm => by
    obtain ⟨g', t', cs, fuel, p, q, hg', ht', hvar, hd, hrest, _⟩ := h
    rcases List.mem_cons.1 hm with e | hm
    · cases e
      obtain rfl := Option.some.inj (hg.symm.trans hg')
      obtain rfl := Option.some.inj (hty.symm.trans ht')
      unfold Go.Lib.TabIs
      rw [hvar, ← Go.Lib.cells_of_tab ht he hce hct hd]
    · exact tabIs_mem hg hty ht he hce hct hrest hm

theorem glOk_tabs {M : Maps} {P : Program} {W : World} (h2 : GlOk2 M (g0 W) W) (h : ∀ n x, look M.gl n = some x → ∃ name k zs, P.globalNamed name = some n ∧ x = .agg (zs.map (D.i k)) ∧ zs ≠ [] ∧ Go.Lib.TabIs P W name k zs) : GlOk M (g0 W) W := by
  refine ⟨?_, h2⟩
  intro n x hn
  obtain ⟨name, k, zs, hg, rfl, hne, ht⟩ := h n x hn
  refine ⟨zs.map fun z => Value.int k z, rep_ints k zs, fun j v hj => ?_, ?_⟩
  · have hlt : j < zs.length := by
      have := (List.getElem?_eq_some_iff.1 hj).1
      simpa using this
    rw [Nat.zero_add, ht.cell hg j hlt]
    have : (zs.map fun z => Value.int k z)[j]? = some (.int k (zs.getD j 0)) := by simp [List.getD, hlt]
    rw [this] at hj
    exact hj
  · have hpos : 0 < zs.length := by cases zs with | nil => exact absurd rfl hne | cons => simp
    have := cell_size (ht.cell hg (zs.length - 1) (by omega))
    simp only [List.length_map]
    omega
/-- A variable of the rows that holds an interface's value. -/
theorem ifc_mem {P : Program} {W : World} {name : String} {g t : Nat} {tn : String} {x : DataW Unit}
    (hg : P.globalNamed name = some g) (hty : (P.globals[g]?).map (·.type) = some t) (hct : P.cellsOf t = 1) :
    ∀ {laid : List (String × DataW Unit)} {ps : List MemPlace}, DataW.LaidVars P W laid ps → (name, DataW.iface tn x) ∈ laid → (∃ ev, W.cell? ⟨g, 0, none⟩ = some ev ∧ (ev = .nilIface ∨ ∃ te pe, ev = .iface te pe)) ∧ 0 < (g0 W).pub g
  | [], _, _, hm => by cases hm
  | (nm, d) :: rest, ps, h, hm => by
    obtain ⟨g', t', cs, fuel, p, q, hg', ht', hvar, hd, hrest, _⟩ := h
    rcases List.mem_cons.1 hm with e | hm
    · cases e
      obtain rfl := Option.some.inj (hg.symm.trans hg')
      obtain rfl := Option.some.inj (hty.symm.trans ht')
      have hcs : ∃ u v, cs.toList = [.iface u v] := by
        generalize hl : cs.toList = l at hd
        cases fuel with
        | zero => simp [DataW.trod] at hd
        | succ fuel =>
          unfold DataW.trod at hd
          split at hd
          all_goals try (exact ⟨_, _, rfl⟩)
          all_goals exfalso
          all_goals try (cases hd; done)
          all_goals try (simp only [Option.map_eq_some_iff, Option.bind_eq_some_iff, Prod.mk.injEq, reduceCtorEq, false_and, and_false, exists_false, exists_const] at hd; done)
          all_goals try split at hd
          all_goals try (cases hd; done)
          all_goals try (simp only [Option.map_eq_some_iff, Option.bind_eq_some_iff, Prod.mk.injEq, reduceCtorEq, false_and, and_false, exists_false, exists_const] at hd; done)
          all_goals try split at hd
          all_goals try (cases hd; done)
          all_goals try (simp only [Option.map_eq_some_iff, Option.bind_eq_some_iff, Prod.mk.injEq, reduceCtorEq, false_and, and_false, exists_false, exists_const] at hd; done)
          all_goals (obtain ⟨en, _, hd⟩ := Option.bind_eq_some_iff.1 hd; simp only at hd; split at hd <;> cases hd)
      obtain ⟨u, v, hcs⟩ := hcs
      have hc1 : cs = #[.iface u v] := by rw [← Array.toList_inj]; exact hcs
      subst hc1
      have hh : ∃ T f, W.heap[g]? = some (.cells #[.iface u v] T f) := by
        simp only [World.var?, hg, Option.bind_some] at hvar
        split at hvar
        · rename_i cs' T f he
          simp only [Option.some.injEq] at hvar
          subst hvar
          exact ⟨T, f, he⟩
        · cases hvar
      obtain ⟨T, f, hh⟩ := hh
      refine ⟨⟨.iface u v, ?_, .inr ⟨u, v, rfl⟩⟩, ?_⟩
      · simp [World.cell?, hh]
      · simp [g0, hh]
    · exact ifc_mem hg hty hct hrest hm
end W

