/-
  CodeReads: any bytes are the list that the document reads from them, or are refused: part 6 of what the proof rests on (a value semantics for a part of the language, sound against the model; the walks).
-/
import Derived.Lib.LaidTab
import Derived.Test.YtmflhlbdfhgbnaaDoorW5
set_option linter.unusedSimpArgs false
set_option linter.unusedVariables false
open Bool renaming false_eq_true → qvA, and_eq_true → qvB, cond_eq_ite → qvD, or_true → qvK, and_self → qvL, not_true → qvN, or_self → qvR
open Nat renaming le_refl → qvC, zero_add → qvF, beq → qvG, eq_of_beq_eq_true → qvJ
open Option renaming bind_eq_some_iff → qvE, map_some → qvH, bind_eq_bind → qvI, pure_def → qvO
open List renaming map_cons → qvM, length_cons → qvP, length_nil → qvQ, getElem?_cons_zero → qvS, map_nil → qvT
namespace W
open Go (IntKind BinOp UnOp)
set_option maxRecDepth 20000
theorem qkf {H : List Obj} {n : Nat} (hn0 : n ≤ 100000) : ∀ (f i : Nat) (y : D) (B : List Nat) (acc : List (Int × Int)), SlD e8 y B → B.length ≤ 100000 → (∀ c ∈ B, c < 256) → n - i = f → i ≤ n → acc.length + f ≤ 100000 →
    (∀ l m, qcX f B = some (l, m) → m ≤ B.length ∧ ∃ y', SlD e8 y' (B.drop m) ∧ jl 0 [0, 7] (qV pg (.d y) (.d (.i .u64 (n : Nat))) (slV eOp acc) (.d (.i .i64 (i : Nat))) H H.length) = some (.nrm, ⟨[(0, .d y'), (7, slV eOp (acc ++ l))], H, H.length⟩)) ∧
    (qcX f B = none → ∃ e, jl 0 [0, 7] (qV pg (.d y) (.d (.i .u64 (n : Nat))) (slV eOp acc) (.d (.i .i64 (i : Nat))) H H.length) = some (.ret, ⟨e, H, H.length⟩) ∧ get 2 e = .d .nil ∧ get 3 e = .d (.b false))
  | 0, i, y, B, acc, hs, hB, hb, hn, hi, ha => by
    refine ⟨fun l m h => ?_, fun h => by simp [qcX] at h⟩
    simp only [qcX, Option.some.injEq, Prod.mk.injEq] at h
    obtain ⟨rfl, rfl⟩ := h
    have hlt : ((i : Int) < (n : Int)) = False := by rw [eq_iff_iff]; simp; omega
    have hwn : wr .i64 (n : Int) = (n : Int) := jt (by omega) (by omega)
    refine ⟨by omega, y, hs, ?_⟩
    rw [kA]
    simp only [kn, qX, qai, ql, qk, qf, qc, kC, reduceCtorEq, qs, Nat.reduceEqDiff, qr, qm, qn, qD, qT, qE, hwn, qh, qe, kf, qvR, kJ, hlt, decide_false, qa, qb, qj, qw, qvA, ↓reduceIte, qa4, yn, jQ, qP, qO, List.append_nil]
  | f + 1, i, y, B, acc, hs, hB, hb, hn, hi, ha => by
    have hlt : ((i : Int) < (n : Int)) = True := by rw [eq_iff_iff]; simp; omega
    have hwn : wr .i64 (n : Int) = (n : Int) := jt (by omega) (by omega)
    have hw : wr .i64 ((i : Int) + 1) = ((i + 1 : Nat) : Int) := by rw [jt (by omega) (by omega)]; omega
    have fin : ∀ (p : Int × Int) (k : Nat) (y2 : D), qag B = some (p, k) → SlD e8 y2 (B.drop k) → k ≤ B.length →
        jl 0 [0, 7] (qV pg (.d y) (.d (.i .u64 (n : Nat))) (slV eOp acc) (.d (.i .i64 (i : Nat))) H H.length) = jl 0 [0, 7] (qV pg (.d y2) (.d (.i .u64 (n : Nat))) (slV eOp (acc ++ [p])) (.d (.i .i64 ((i + 1 : Nat) : Int))) H H.length) →
        ((∀ l m, qcX (f + 1) B = some (l, m) → m ≤ B.length ∧ ∃ y', SlD e8 y' (B.drop m) ∧ jl 0 [0, 7] (qV pg (.d y) (.d (.i .u64 (n : Nat))) (slV eOp acc) (.d (.i .i64 (i : Nat))) H H.length) = some (.nrm, ⟨[(0, .d y'), (7, slV eOp (acc ++ l))], H, H.length⟩)) ∧
        (qcX (f + 1) B = none → ∃ e, jl 0 [0, 7] (qV pg (.d y) (.d (.i .u64 (n : Nat))) (slV eOp acc) (.d (.i .i64 (i : Nat))) H H.length) = some (.ret, ⟨e, H, H.length⟩) ∧ get 2 e = .d .nil ∧ get 3 e = .d (.b false))) := by
      intro p k y2 ho hs2 hk key
      have ih := qkf hn0 (H := H) f (i + 1) y2 (B.drop k) (acc ++ [p]) hs2 (by simp; omega) (fun c hc => hb c (List.mem_of_mem_drop hc)) (by omega) (by omega) (by simp; omega)
      rw [key, qcX, ho]
      simp only []
      cases hd : qcX f (B.drop k) with
      | none => exact ⟨fun l m h => by simp at h, fun _ => ih.2 hd⟩
      | some lm =>
        obtain ⟨l', m'⟩ := lm
        refine ⟨fun l m h => ?_, fun h => by simp at h⟩
        simp only [Option.some.injEq, Prod.mk.injEq] at h
        obtain ⟨rfl, rfl⟩ := h
        obtain ⟨g0, y', g1, g2⟩ := ih.1 l' m' hd
        rw [List.length_drop] at g0
        refine ⟨by omega, y', ?_, ?_⟩
        · rwa [List.drop_drop] at g1
        · rw [g2, List.append_assoc]; rfl
    have bad : qag B = none → (∃ e, jl 0 [0, 7] (qV pg (.d y) (.d (.i .u64 (n : Nat))) (slV eOp acc) (.d (.i .i64 (i : Nat))) H H.length) = some (.ret, ⟨e, H, H.length⟩) ∧ get 2 e = .d .nil ∧ get 3 e = .d (.b false)) →
        ((∀ l m, qcX (f + 1) B = some (l, m) → m ≤ B.length ∧ ∃ y', SlD e8 y' (B.drop m) ∧ jl 0 [0, 7] (qV pg (.d y) (.d (.i .u64 (n : Nat))) (slV eOp acc) (.d (.i .i64 (i : Nat))) H H.length) = some (.nrm, ⟨[(0, .d y'), (7, slV eOp (acc ++ l))], H, H.length⟩)) ∧
        (qcX (f + 1) B = none → ∃ e, jl 0 [0, 7] (qV pg (.d y) (.d (.i .u64 (n : Nat))) (slV eOp acc) (.d (.i .i64 (i : Nat))) H H.length) = some (.ret, ⟨e, H, H.length⟩) ∧ get 2 e = .d .nil ∧ get 3 e = .d (.b false))) := by
      intro ho he
      rw [qcX, ho]
      exact ⟨fun l m h => by simp at h, fun _ => he⟩
    have hl := fun H => hs.len (H := H)
    cases B with
    | nil =>
      refine bad rfl ?_
      have e0 : (((([] : List Nat).length : Nat) : Int) = 0) = True := by simp
      rw [kA]
      simp only [kn, qX, qai, ql, qk, qf, qc, kC, reduceCtorEq, qs, Nat.reduceEqDiff, qr, qm, qn, qD, qT, qE, hwn, qh, qe, kf, qvR, kJ, hlt, decide_true, qa, qb, qj, qw, ↓reduceIte, qI, qq, qN, hs.len, qvQ, Int.cast_ofNat_Int, kx, qvK, kH, qY, qQ, kh, qvN, kg, qvA, ky, qz, qU, qcN, qA, qJ, qL, qZ]
      exact ⟨_, rfl, rfl, rfl⟩
    | cons c R =>
      have e0 : ((((c :: R).length : Nat) : Int) = 0) = False := by simp; omega
      have hc := hb c (by simp)
      have hx := hs.ix (k := .i64) (n := 0) (qba c) (by simp)
      rw [show ((0 : Nat) : Int) = 0 from rfl] at hx
      simp only [e8] at hx
      have hwc : wr .i64 (c : Int) = (c : Int) := jt (by omega) (by omega)
      obtain ⟨y1, hy, hY⟩ := hs.cut (z := 1) qba (lo := some 1) (hi := none) (l := 1) (t := (c :: R).length) rfl rfl (by simp) (by omega)
      rw [List.take_length, List.drop_succ_cons, List.drop_zero] at hY
      have hRl : R.length ≤ 100000 := by simp at hB; omega
      generalize hN : (((c :: R).length : Nat) : Int) = N at *
      have hl : ∀ H, qjP .lenL (.d y) H = some (.d (.i .i64 N)) := fun H => by rw [hs.len, hN]
      by_cases h34 : 34 ≤ c
      · have h34' : ((34 : Int) ≤ (c : Int)) = True := eq_true (by omega)
        refine bad (by rw [qag, if_pos h34]) ?_
        rw [kA]
        simp only [kn, qX, qai, ql, qk, qf, qc, kC, reduceCtorEq, qs, Nat.reduceEqDiff, qr, qm, qn, qD, qT, qE, hwn, qh, qe, kf, qvR, kJ, hlt, decide_true, qa, qb, qj, qw, ↓reduceIte, qI, qq, qN, hl, kx, qvK, kH, qY, e0, decide_false, qQ, kh, Bool.not_false, kg, qu, hx, zY, qW, kI, ku, hwc, ym, h34', qz, kv, qvA, qA, qJ, qL, qZ]
        exact ⟨_, rfl, rfl, rfl⟩
      · have h34' : ((34 : Int) ≤ (c : Int)) = False := eq_false (by omega)
        cases hh : j6 (c : Int)
        · have ha1 : yg 2 16 (slV eOp acc) (.d (.sl [.agg [.i .i64 (c : Int), .i .i32 0]])) = some (slV eOp (acc ++ [((c : Int), 0)])) := qjl (x := ((c : Int), 0)) qc2 (qgL (by omega) (by omega))
          refine fin ((c : Int), 0) 1 y1 (by rw [qag, if_neg h34, hh]; rfl) (by simpa using hY) (by simp) ?_
          rw [kA]
          simp only [kn, qX, qai, ql, qk, qf, qc, kC, reduceCtorEq, qs, Nat.reduceEqDiff, qr, qm, qn, qD, qT, qE, hwn, qh, qe, kf, qvR, kJ, hlt, decide_true, qa, qb, qj, qw, ↓reduceIte, qI, qq, qN, hl, kx, qvK, kH, qY, e0, decide_false, qQ, kh, Bool.not_false, kg, qu, hx, zY, qW, kI, ku, hwc, ym, h34', qz, kv, qvA, jM, qvM, qvT, y8, qcB, qaC, qvP, qvQ, qvF, Nat.reduceAdd, Nat.reduceLT, qdo, List.set_cons_zero, qal, qak, qaE, qda, qax, jV, yE, zG, ye, kW, yl, qcs, qcZ, zn, zT, zQ, j8, zO, zN, jr, qvL, jD, jA, List.set_cons_succ, z6, yh, zo, zU, qcd, zV, jS, hy, kB, qck, Nat.add_zero, qb6, yK, yf, qci, qvS, qvH, yz, qR, qC, qK, qG, kF, qaR, hh, qS, qB, qH, Nat.min_self, jo, qhE, kw, qlf, Nat.reduceLeDiff, qeF, List.drop_zero, List.take_succ_cons, List.take_zero, kE, qgl, List.reduceReplicate, jX, yO, qaF, qnz, qf9, qhH, qbV, qab, qaL, qex, jc, ha1, qhB, zK, qP, qO, jF, hw, ze]
        · have hr := qgP (H := H) hY (fun c hc => hb c (by simp [hc])) (by omega)
          cases hq : jz R with
          | none =>
            rw [hq] at hr
            simp only [rdV, rdN, Option.isSome_none] at hr
            have hz := qlm (H := H) (u := 0) (by omega)
            rw [show ((0 : Nat) : Int) = 0 from rfl] at hz
            refine bad (by rw [qag, if_neg h34, hh, hq]; rfl) ?_
            rw [kA]
            simp only [kn, qX, qai, ql, qk, qf, qc, kC, reduceCtorEq, qs, Nat.reduceEqDiff, qr, qm, qn, qD, qT, qE, hwn, qh, qe, kf, qvR, kJ, hlt, decide_true, qa, qb, qj, qw, ↓reduceIte, qI, qq, qN, hl, kx, qvK, kH, qY, e0, decide_false, qQ, kh, Bool.not_false, kg, qu, hx, zY, qW, kI, ku, hwc, ym, h34', qz, kv, qvA, jM, qvM, qvT, y8, qcB, qaC, qvP, qvQ, qvF, Nat.reduceAdd, Nat.reduceLT, qdo, List.set_cons_zero, qal, qak, qaE, qda, qax, jV, yE, zG, ye, kW, yl, qcs, qcZ, zn, zT, zQ, j8, zO, zN, jr, qvL, jD, jA, List.set_cons_succ, z6, yh, zo, zU, qcd, zV, jS, hy, kB, qck, Nat.add_zero, qb6, yK, yf, qci, qvS, qvH, yz, qR, qC, qK, qG, kF, qaR, hh, qS, qB, qH, Nat.min_self, hr, ky, qU, q9, jH, jL, jI, qan, jo, zz, kw, hz, kL, jm, qvN, qcN, qA, qJ, qL, qZ]
            exact ⟨_, rfl, rfl, rfl⟩
          | some p =>
            obtain ⟨u, m⟩ := p
            rw [hq] at hr
            simp only [rdV, rdN, Option.isSome_some] at hr
            have hz := qlm (H := H) (qfu hq)
            have hzl := qqn (qfu hq)
            have hm := qeJ hq
            simp only [] at hz hm hzl
            have h32 := qsS hzl.1 hzl.2
            cases hk : qkk (zag u)
            · have h32' : (zag u = wr .i64 (wr .i32 (zag u))) = False := by rw [eq_iff_iff, h32, hk]; simp
              refine bad (by rw [qag, if_neg h34, hh, hq]; simp [hk]) ?_
              rw [kA]
              simp only [kn, qX, qai, ql, qk, qf, qc, kC, reduceCtorEq, qs, Nat.reduceEqDiff, qr, qm, qn, qD, qT, qE, hwn, qh, qe, kf, qvR, kJ, hlt, decide_true, qa, qb, qj, qw, ↓reduceIte, qI, qq, qN, hl, kx, qvK, kH, qY, e0, decide_false, qQ, kh, Bool.not_false, kg, qu, hx, zY, qW, kI, ku, hwc, ym, h34', qz, kv, qvA, jM, qvM, qvT, y8, qcB, qaC, qvP, qvQ, qvF, Nat.reduceAdd, Nat.reduceLT, qdo, List.set_cons_zero, qal, qak, qaE, qda, qax, jV, yE, zG, ye, kW, yl, qcs, qcZ, zn, zT, zQ, j8, zO, zN, jr, qvL, jD, jA, List.set_cons_succ, z6, yh, zo, zU, qcd, zV, jS, hy, kB, qck, Nat.add_zero, qb6, yK, yf, qci, qvS, qvH, yz, qR, qC, qK, qG, kF, qaR, hh, qS, qB, qH, Nat.min_self, hr, ky, qU, q9, jH, jL, jI, qan, jo, zz, kw, hz, kL, jm, qvN, qdw, h32', qA, qJ, qL, qZ]
              exact ⟨_, rfl, rfl, rfl⟩
            · have h32' : (zag u = wr .i64 (wr .i32 (zag u))) = True := eq_true (h32.2 hk)
              have hk' := hk
              simp [qkk] at hk'
              have h33 : wr .i32 (zag u) = zag u := qnf hk'.1 hk'.2
              have h35 : wr .i64 (zag u) = zag u := jt (by omega) (by omega)
              obtain ⟨y2, hy2, hY2⟩ := hY.cut (z := 1) qba (lo := some (m : Int)) (hi := none) (l := m) (t := R.length) rfl rfl hm (by omega)
              rw [List.take_length] at hY2
              have ha1 : yg 2 16 (slV eOp acc) (.d (.sl [.agg [.i .i64 (c : Int), .i .i32 (zag u)]])) = some (slV eOp (acc ++ [((c : Int), zag u)])) := qjl (x := ((c : Int), zag u)) qc2 (qgL (by omega) (by omega))
              refine fin ((c : Int), zag u) (1 + m) y2 (by rw [qag, if_neg h34, hh, hq]; simp [hk]) (by rw [Nat.add_comm, List.drop_succ_cons]; exact hY2) (by simp; omega) ?_
              rw [kA]
              simp only [kn, qX, qai, ql, qk, qf, qc, kC, reduceCtorEq, qs, Nat.reduceEqDiff, qr, qm, qn, qD, qT, qE, hwn, qh, qe, kf, qvR, kJ, hlt, decide_true, qa, qb, qj, qw, ↓reduceIte, qI, qq, qN, hl, kx, qvK, kH, qY, e0, decide_false, qQ, kh, Bool.not_false, kg, qu, hx, zY, qW, kI, ku, hwc, ym, h34', qz, kv, qvA, jM, qvM, qvT, y8, qcB, qaC, qvP, qvQ, qvF, Nat.reduceAdd, Nat.reduceLT, qdo, List.set_cons_zero, qal, qak, qaE, qda, qax, jV, yE, zG, ye, kW, yl, qcs, qcZ, zn, zT, zQ, j8, zO, zN, jr, qvL, jD, jA, List.set_cons_succ, z6, yh, zo, zU, qcd, zV, jS, hy, kB, qck, Nat.add_zero, qb6, yK, yf, qci, qvS, qvH, yz, qR, qC, qK, qG, kF, qaR, hh, qS, qB, qH, Nat.min_self, hr, ky, qU, q9, jH, jL, jI, qan, jo, zz, kw, hz, kL, jm, qvN, h33, h35, qdw, qf7, hy2, qhE, qlf, Nat.reduceLeDiff, qeF, List.drop_zero, List.take_succ_cons, List.take_zero, kE, qgl, List.reduceReplicate, jX, yO, qaF, qnz, qf9, qhH, qbV, qab, qaL, qex, jc, ha1, qhB, zK, qP, qO, jF, hw, ze]
theorem qkL {H : List Obj} {x : D} {B : List Nat} (hs : SlD e8 x B) (hB : B.length ≤ 100000) (hb : ∀ c ∈ B, c < 256) :
    (∀ l, decode B = some l → kK pg 13 [.d x] H = some ⟨false, true, .tup [.d (slD eOp l), .d (.b true)], H, H.length⟩) ∧
    (decode B = none → ∃ z, kK pg 13 [.d x] H = some ⟨false, true, .tup [.d z, .d (.b false)], H, H.length⟩) := by
  rw [jE (fn := kO) rfl rfl]
  have hr := qgP (H := H) hs hb (by omega)
  have hw : wr .u64 (B.length : Int) = (B.length : Int) := qcD (by omega) (by omega)
  unfold decode
  cases hq : jz B with
  | none =>
    rw [hq] at hr
    simp only [rdV, rdN, Option.isSome_none] at hr
    refine ⟨fun l h => by simp at h, fun _ => ⟨.nil, ?_⟩⟩
    simp only [kO, qi, qvF, qp, ql, qk, qf, qc, kH, qA, qD, qT, qa, qb, kC, reduceCtorEq, qs, qr, qm, qn, qR, qvM, qvT, qC, qK, qG, qvL, kF, hr, qS, qB, qH, Nat.min_self, ky, qU, q9, jH, jL, qh, Nat.reduceEqDiff, jI, qan, kL, jm, Bool.not_false, qvH, qQ, kh, qvN, kg, qvA, ↓reduceIte, qz, qcN, qj, qw, qJ, qL, qM, qd, qx, kq, qg, qo, zr, kT, zS, qd1, jv, jy, zl, zk, zM, Nat.max_self, kS, qF]
  | some p =>
    obtain ⟨n, at'⟩ := p
    have hat := qeJ hq
    simp only [] at hat
    rw [hq] at hr
    simp only [rdV, rdN, Option.isSome_some] at hr
    by_cases hn : B.length < n
    · have hn' : ((B.length : Int) < (n : Int)) = True := eq_true (by omega)
      simp only [if_pos hn]
      refine ⟨fun l h => by simp at h, fun _ => ⟨.nil, ?_⟩⟩
      simp only [kO, qi, qvF, qp, ql, qk, qf, qc, kH, qA, qD, qT, qa, qb, kC, reduceCtorEq, qs, qr, qm, qn, qR, qvM, qvT, qC, qK, qG, qvL, kF, hr, qS, qB, qH, Nat.min_self, ky, qU, q9, jH, jL, qh, Nat.reduceEqDiff, jI, qan, kL, jm, qvN, qvH, qQ, kh, Bool.not_false, kg, ↓reduceIte, qN, hs.len, qE, hw, qe, kf, qvR, zy, hn', decide_true, qz, kv, qvA, qj, qw, qJ, qL, qM, qd, qx, kq, qg, qo, zr, kT, zS, qd1, jv, jy, zl, zk, zM, Nat.max_self, kS, qF]
    · have hn' : ((B.length : Int) < (n : Int)) = False := eq_false (by omega)
      simp only [if_neg hn]
      obtain ⟨y1, hy1, hY1⟩ := hs.cut (z := 1) qba (lo := some (at' : Int)) (hi := none) (l := at') (t := B.length) rfl rfl hat (by omega)
      rw [List.take_length] at hY1
      have hl := qkf (n := n) (by omega) (H := H) n 0 y1 (B.drop at') [] hY1 (by simp; omega) (fun c hc => hb c (List.mem_of_mem_drop hc)) (by omega) (by omega) (by simp; omega)
      rw [← ql9, show ((0 : Nat) : Int) = 0 from rfl] at hl
      cases hd : qcX n (B.drop at') with
      | none =>
        obtain ⟨e, g1, g2, g3⟩ := hl.2 hd
        refine ⟨fun l h => by simp at h, fun _ => ⟨.nil, ?_⟩⟩
        simp only [kO, qi, qvF, qp, ql, qk, qf, qc, kH, qA, qD, qT, qa, qb, kC, reduceCtorEq, qs, qr, qm, qn, qR, qvM, qvT, qC, qK, qG, qvL, kF, hr, qS, qB, qH, Nat.min_self, ky, qU, q9, jH, jL, qh, Nat.reduceEqDiff, jI, qan, kL, jm, qvN, qvH, qQ, kh, Bool.not_false, kg, ↓reduceIte, qN, hs.len, qE, hw, qe, kf, qvR, zy, hn', decide_false, qz, kv, qvA, qj, qw, qI, zo, zU, qcd, zV, jS, hy1, qq, ze, qX, g1, qL, qM, qd, qx, g2, kq, g3, qg, qo, zr, kT, zS, qd1, jv, jy, zl, zk, zM, Nat.max_self, kS, qF]
      | some lm =>
        obtain ⟨l', m'⟩ := lm
        obtain ⟨g0, y', gs, g1⟩ := hl.1 l' m' hd
        simp only [List.nil_append] at g1
        rw [List.length_drop] at g0
        have hlen := gs.len (H := H)
        rw [List.drop_drop, List.length_drop] at hlen
        simp only []
        by_cases he : at' + m' = B.length
        · have he' : (((B.length - (at' + m') : Nat) : Int) = 0) = True := eq_true (by omega)
          refine ⟨fun l h => ?_, fun h => by simp [he] at h⟩
          rw [if_pos he] at h
          simp only [Option.some.injEq] at h
          subst h
          simp only [kO, j7, qi, qvF, qp, ql, qk, qf, qc, kH, qA, qD, qT, qa, qb, kC, reduceCtorEq, qs, qr, qm, qn, qR, qvM, qvT, qC, qK, qG, qvL, kF, hr, qS, qB, qH, Nat.min_self, ky, qU, q9, jH, jL, qh, Nat.reduceEqDiff, jI, qan, kL, jm, qvN, qvH, qQ, kh, Bool.not_false, kg, ↓reduceIte, qN, hs.len, qE, hw, qe, kf, qvR, zy, hn', decide_false, qz, kv, qvA, qj, qw, qI, zo, zU, qcd, zV, jS, hy1, qq, ze, qX, g1, qhD, hlen, kx, qvK, qY, he', decide_true, qJ, qM, qd, qx, kq, qg, qo, zr, kT, zS, qd1, jv, jy, zl, zk, zM, Nat.max_self, kS, qF]
        · have he' : (((B.length - (at' + m') : Nat) : Int) = 0) = False := eq_false (by omega)
          refine ⟨fun l h => by simp [he] at h, fun _ => ⟨slD eOp l', ?_⟩⟩
          simp only [kO, j7, qi, qvF, qp, ql, qk, qf, qc, kH, qA, qD, qT, qa, qb, kC, reduceCtorEq, qs, qr, qm, qn, qR, qvM, qvT, qC, qK, qG, qvL, kF, hr, qS, qB, qH, Nat.min_self, ky, qU, q9, jH, jL, qh, Nat.reduceEqDiff, jI, qan, kL, jm, qvN, qvH, qQ, kh, Bool.not_false, kg, ↓reduceIte, qN, hs.len, qE, hw, qe, kf, qvR, zy, hn', decide_false, qz, kv, qvA, qj, qw, qI, zo, zU, qcd, zV, jS, hy1, qq, ze, qX, g1, qhD, hlen, kx, qvK, qY, he', qJ, qM, qd, qx, kq, qg, qo, zr, kT, zS, qd1, jv, jy, zl, zk, zM, Nat.max_self, kS, qF]
end W

set_option linter.unusedSimpArgs false
set_option linter.unusedVariables false
namespace W
open Go (IntKind BinOp UnOp)
set_option maxRecDepth 20000
theorem SlD.load {α : Type} {e : α → D} {x : D} {L : List α} (h : SlD e x L) {st : St} : qd7 none ⟨1, false⟩ st (.cp x) = some (.d x) := by cases h <;> rfl
theorem qnw {L : List (Int × Int)} (h : ∀ p ∈ L, w32 p) (hL : L.length ≤ 40) : (encode L).length ≤ 1000 := by
  have h1 := qmp h
  have h2 := qfA (v := L.length) (by omega)
  simp only [encode, List.length_append]; omega
theorem qsM {α : Type} {e : α → D} {x y : D} {L M : List α} (h1 : SlD e x L) (h2 : SlD e y M) : qbL 1 [D.nil, D.nil] [(0, .d x), (1, .d y)] = some [x, y] := by
  cases h1 <;> cases h2 <;> rfl
theorem qu8 {α : Type} {e : α → D} {x y : D} {L M : List α} (h1 : SlD e x L) (h2 : SlD e y M) : slO (some [x, y]) = some (.osl [x, y]) := by
  cases h1 <;> cases h2 <;> exact qab rfl
theorem qlj : ∀ (f : Nat) (B : List Nat) (l : List (Int × Int)) (m : Nat), qcX f B = some (l, m) → l.length = f
  | 0, B, l, m, h => by simp only [qcX, Option.some.injEq, Prod.mk.injEq] at h; rw [← h.1]; rfl
  | f + 1, B, l, m, h => by
    rw [qcX] at h
    split at h
    · cases h
    · split at h
      · cases h
      · rename_i hd
        simp only [Option.some.injEq, Prod.mk.injEq] at h
        rw [← h.1, qvP, qlj f _ _ _ hd]
theorem qm6 {B : List Nat} {l : List (Int × Int)} (h : decode B = some l) : l.length ≤ B.length := by
  unfold decode at h
  split at h
  · cases h
  · split at h
    · cases h
    · split at h
      · cases h
      · rename_i hd
        split at h
        · simp only [Option.some.injEq] at h
          subst h
          rw [qlj _ _ _ _ hd]; omega
        · cases h
theorem qjn {H : List Obj} {xs : List D} {i : Nat} {x : D} {B : List Nat} (hi : xs[i]? = some x) (hn : xs.length ≤ 10) (hs : SlD e8 x B) (hB : B.length ≤ 1000) (hb : ∀ c ∈ B, c < 256) (lo : Nat) : ∃ lo',
    kP pg (.osl xs) (.d (.i .i64 (xs.length : Nat))) (.d (.i .i64 (i : Nat))) H lo = kP pg (.osl xs) (.d (.i .i64 (xs.length : Nat))) (.d (.i .i64 ((i + 1 : Nat) : Int))) H lo' := by
  have hil : i < xs.length := (List.getElem?_eq_some_iff.1 hi).1
  have hlt : ((i : Int) < (xs.length : Int)) = True := eq_true (by omega)
  have hw : wr .i64 ((i : Int) + 1) = ((i + 1 : Nat) : Int) := by rw [jt (by omega) (by omega)]; omega
  have hx1 : x.cells.length = 1 := by cases hs <;> rfl
  have hx : iaV (.d (.sl xs)) (.d (.i .i64 (i : Nat))) 1 none = some (.cp x) := qra (by omega) (by simpa using hi) (eq_true hx1)
  have e1 := qmI (H := H) hs (by omega) hb
  have e2 := qkL (H := H) hs (by omega) hb
  rw [qaq]
  cases hd : decode B with
  | none =>
    have e1 := e1.2 hd
    obtain ⟨z, e2⟩ := e2.2 hd
    have e5 := qjh (H := H) (x := .nil) (y := .nil) (L := []) .nil .nil (by simp)
    simp only [zD, qdO, qX, ql, qk, qf, qe, kf, qvR, kC, Nat.reduceEqDiff, qs, qr, qm, kJ, hlt, decide_true, qh, qD, qT, qa, qb, qj, qw, ↓reduceIte, qI, qq, qu, jc, hx, zY, qie, kI, qpX, hs.load, qc, qn, qR, qvM, qvT, qC, qK, qG, qvL, kF, e1, qS, qB, qH, ky, qU, q9, jH, jL, jI, jo, zz, kw, e2, kL, jm, Bool.not_false, qvH, kH, qA, kx, qvK, qY, Int.reduceEq, decide_false, qll, beq_self_eq_true, qvN, qQ, kh, kg, zc, qdw, qz, kv, qvA, e5, zK, qP, qO, jF, hw, zX]
    exact ⟨_, rfl⟩
  | some l =>
    have e1 := e1.1 l hd
    have e2 := e2.1 l hd
    have hl := qm6 hd
    have e5 := qjh (H := H) (x := slD eOp l) (y := slD eOp l) (L := l) qgO qgO (by omega)
    simp only [zD, qdO, qX, ql, qk, qf, qe, kf, qvR, kC, Nat.reduceEqDiff, qs, qr, qm, kJ, hlt, decide_true, qh, qD, qT, qa, qb, qj, qw, ↓reduceIte, qI, qq, qu, jc, hx, zY, qie, kI, qpX, hs.load, qc, qn, qR, qvM, qvT, qC, qK, qG, qvL, kF, e1, qS, qB, qH, ky, qU, q9, jH, jL, jI, jo, zz, kw, e2, kL, jm, qvN, qvH, qvA, kx, qvK, kH, qY, qll, beq_self_eq_true, qQ, kh, Bool.not_false, kg, zc, qz, qap, kv, e5, zK, qP, qO, jF, hw, zX]
    exact ⟨_, rfl⟩
theorem qpG {H : List Obj} {xs : List D} {lo : Nat} : jl 0 [] (kP pg (.osl xs) (.d (.i .i64 (xs.length : Nat))) (.d (.i .i64 (xs.length : Nat))) H lo) = some (.nrm, ⟨[], H, lo⟩) := by
  have hlt : ((xs.length : Int) < (xs.length : Int)) = False := by simp
  rw [qaq]
  simp only [zD, qdO, qX, ql, qk, qf, qe, kf, qvR, kC, Nat.reduceEqDiff, qs, qr, qm, kJ, hlt, decide_false, qh, qD, qT, qa, qb, qj, qw, qvA, ↓reduceIte, qa4, yn, jQ, qO]
theorem qja {H : List Obj} {x y : D} {A B : List Nat} (hx : SlD e8 x A) (hA : A.length ≤ 1000) (ha : ∀ c ∈ A, c < 256) (hy : SlD e8 y B) (hB : B.length ≤ 1000) (hb : ∀ c ∈ B, c < 256) (lo : Nat) : ∃ lo',
    jl 0 [] (kP pg (.osl [x, y]) (.d (.i .i64 2)) (.d (.i .i64 0)) H lo) = some (.nrm, ⟨[], H, lo'⟩) := by
  obtain ⟨lo1, s0⟩ := qjn (H := H) (xs := [x, y]) (i := 0) rfl (by simp) hx hA ha lo
  obtain ⟨lo2, s1⟩ := qjn (H := H) (xs := [x, y]) (i := 1) rfl (by simp) hy hB hb lo1
  have s2 := qpG (H := H) (xs := [x, y]) (lo := lo2)
  refine ⟨lo2, ?_⟩
  have s := s0.trans s1
  rw [show (([x, y].length : Nat) : Int) = 2 from rfl, show ((0 : Nat) : Int) = 0 from rfl, show ((1 + 1 : Nat) : Int) = 2 from rfl] at s
  rw [s]
  exact s2
theorem qq0 : ∀ (ds : List D), chunk ⟨1, false⟩ ds.length ds = ds
  | [] => rfl
  | x :: l => by
    rw [qvP, chunk]
    simp only [cond_false, List.headD_cons, List.drop_succ_cons, List.drop_zero]
    rw [qq0 l]
theorem qrg (a b : Int) : ∃ c : Nat, qis .u8 a b = (c : Int) ∧ c < 256 := by
  have h : 0 ≤ qis .u8 a b ∧ qis .u8 a b < 256 := by
    unfold qis
    generalize ((BitVec.ofInt (IntKind.bits .u8) a) ^^^ (BitVec.ofInt (IntKind.bits .u8) b)).toNat = n
    simp only [IntKind.wrap, IntKind.bits, IntKind.signed]
    simp
    omega
  exact ⟨(qis .u8 a b).toNat, by omega, by omega⟩
theorem qn0 : ∀ (B : List Nat), qaA (B.map fun n : Nat => (.d (.i .u8 n) : V)) = some (B.map e8)
  | [] => rfl
  | x :: l => by simp only [qvM, qaA, qn0 l]; rfl
theorem qnY : ∀ (B : List Nat), D.ones (B.map e8) = true
  | [] => rfl
  | x :: l => by simp only [qvM, D.ones, qnY l]; rfl
theorem qpc {x0 x : D} {R : List Nat} {L : List (Int × Int)} {at' : Nat} {b : Int} (hR : SlD e8 x0 R) (hr : ∀ c ∈ R, c < 256) (hs : SlD eOp x L) (h32 : ∀ p ∈ L, w32 p) (hat : at' < 65536) {lo : Nat} (hk : kK pg 6 [] [] = some ⟨false, true, .d (.b true), [], lo⟩) :
    ∃ lo', kK pg 4 [.d x0, .d x, .d (.i .u16 (at' : Int)), .d (.i .u8 b)] [] = some ⟨false, true, .d (.b true), [], lo'⟩ := by
  rw [jE (fn := zi) rfl rfl]
  have hfin : ∀ e H lo, leave [] false (.d (.b true)) ⟨e, H, lo⟩ = some ⟨false, true, .d (.b true), [], lo⟩ := fun e H lo => qgz rfl (by simp [V.ref]) (Nat.zero_le _)
  by_cases h200 : (200 : Int) < (R.length : Int)
  · simp only [zi, qi, qvF, Nat.reduceAdd, qp, qvQ, ql, qk, qf, qc, kH, qA, qD, qT, qa, qb, qR, qvT, qG, kF, hk, qS, qH, kL, kC, qr, qm, jm, qvN, qvH, qh, qj, qw, qvA, ↓reduceIte, qI, reduceCtorEq, qs, qn, qN, hR.len, qe, kf, kx, qvK, zy, eq_true h200, decide_true, qQ, kh, kg, ky, Nat.reduceEqDiff, qz, qU, qcN, qJ, qL, qM, qd, qx, kq, qg, qo, ko, hfin]
    exact ⟨_, rfl⟩
  have h200' := eq_false h200
  by_cases h40 : (40 : Int) < (L.length : Int)
  · simp only [zi, qi, qvF, Nat.reduceAdd, qp, qvQ, ql, qk, qf, qc, kH, qA, qD, qT, qa, qb, qR, qvT, qG, kF, hk, qS, qH, kL, kC, qr, qm, jm, qvN, qvH, qh, qj, qw, qvA, ↓reduceIte, qI, reduceCtorEq, qs, qn, qN, hR.len, qe, kf, kx, qvK, zy, h200', decide_false, qQ, kh, Bool.not_false, kg, Nat.reduceEqDiff, hs.len, eq_true h40, decide_true, qz, kv, qJ, qL, qM, qd, qx, kq, qg, qo, ko, hfin]
    exact ⟨_, rfl⟩
  have h40' := eq_false h40
  have he := qkP hs (by omega) h32
  have hlen := qnw h32 (L := L) (by omega)
  cases hq : L.all qcc
  · obtain ⟨lo1, e1⟩ := he.2 hq
    have hf : qbL 1 [D.nil, D.nil] [(0, .d x0), (1, .d .nil)] = some [x0, .nil] := qsM hR (.nil (e := e8))
    have ho : slO (some [x0, .nil]) = some (.osl [x0, .nil]) := qu8 hR (.nil (e := e8))
    have hl := fun lo => qja (H := []) hR (by omega) hr (y := .nil) (B := []) .nil (by simp) (by simp) lo
    obtain ⟨lo2, hl⟩ := hl (min (min 0 lo) lo1)
    simp only [zi, yr, qi, qvF, Nat.reduceAdd, qp, qvQ, ql, qk, qf, qc, kH, qA, qD, qT, qa, qb, qR, qvT, qG, kF, hk, qS, qH, kL, kC, qr, qm, jm, qvN, qvH, qh, qj, qw, qvA, ↓reduceIte, qI, reduceCtorEq, qs, qn, qN, hR.len, qe, kf, kx, qvK, zy, h200', decide_false, qQ, kh, Bool.not_false, kg, Nat.reduceEqDiff, hs.len, h40', qz, kv, jo, zz, kw, qvM, qC, qK, qvL, e1, qB, ky, qU, q9, jH, jL, jI, qqR, Int.reduceLT, ql0, que, yh, kE, qjr, qvP, List.reduceReplicate, hf, ho, qaL, jc, qnX, Int.cast_ofNat_Int, qq, zX, qdO, qX, hl, qJ, qM, qd, qx, kq, qg, qo, ko, hfin]
    exact ⟨_, rfl⟩
  · obtain ⟨id, H1, lo1, r1, e1⟩ := he.1 hq
    have hne : encode L ≠ [] := by
      have : putV L.length ≠ [] := by rw [putV]; split <;> simp
      simp [encode, this]
    obtain ⟨id', e0, hid⟩ := r1.inv hne
    simp only [V.row.injEq, true_and, and_true] at e0
    subst e0
    have hb := qnv hq
    generalize encode L = B at *
    have hpos : 0 < B.length := List.length_pos_iff.2 hne
    have p1 : ((0 : Int) < (B.length : Int)) = True := eq_true (by omega)
    have p2 : ((B.length : Int) = 0) = False := eq_false (by omega)
    have w1 : wr .i64 (at' : Int) = (at' : Int) := jt (by omega) (by omega)
    have w2 : Int.tmod (at' : Int) (B.length : Int) = ((at' % B.length : Nat) : Int) := by rw [Int.tmod_eq_emod_of_nonneg (by omega)]; rfl
    have hm : at' % B.length < B.length := Nat.mod_lt _ hpos
    have p3 : ((0 : Int) ≤ ((at' % B.length : Nat) : Int)) = True := eq_true (by omega)
    have p4 : (((at' % B.length : Nat) : Int) < (B.length : Int)) = True := eq_true (by omega)
    obtain ⟨c, hc⟩ : ∃ c, B[at' % B.length]? = some c := ⟨B[at' % B.length]'hm, by simp⟩
    generalize hm' : at' % B.length = m at *
    have hia : iaV (.row id 1 B.length) (.d (.i .i64 (m : Int))) 1 none = some (.ptr id m) := by
      rw [qsE p3 p4]; simp
    have hcell : qmQ ⟨1, false⟩ m (some (qb5 B)) = some (.d (.i .u8 (c : Int))) := by
      rw [qb5, qqT, List.getElem?_map, hc]; rfl
    obtain ⟨d, hxor, hd⟩ := qrg (c : Int) b
    have hset : (B.map fun n : Nat => (.d (.i .u8 n) : V)).set m (.d (.i .u8 (d : Int))) = (B.set m d).map fun n : Nat => (.d (.i .u8 n) : V) := by rw [List.map_set]
    have hst : ∀ e lo, qiT ⟨1, false⟩ (.d (.i .u8 (d : Int))) m id ⟨e, H1, lo⟩ (some (qb5 B)) = some ⟨false, false, .undef, ⟨e, k9 H1 id (qb5 (B.set m d)), min lo id⟩⟩ := fun e lo => by
      have hsc : za (B.map fun n : Nat => (.d (.i .u8 n) : V)) m (V.cells (.d (.i .u8 (d : Int)))) = some ((B.set m d).map fun n : Nat => (.d (.i .u8 n) : V)) := by
        rw [← hset]; exact qf7 (by simpa using hm)
      rw [qb5, qnG (eq_self _) rfl rfl, hsc, qkF]
      rfl
    have hfz : ∀ e lo, fzR 9 id 1 B.length ⟨e, k9 H1 id (qb5 (B.set m d)), lo⟩ (some (qb5 (B.set m d))) = some ⟨false, false, .undef, ⟨(9, .d (slD e8 (B.set m d))) :: e, k9 (k9 H1 id (qb5 (B.set m d))) id .dead, min lo id⟩⟩ := fun e lo => by
      have hl1 : (B.set m d).length = B.length := by simp
      rw [qb5, qsk rfl (by simp) (Nat.ble_eq_true_of_le hpos) rfl rfl (qn0 _) (qnY _)]
      have e3 : chunk ⟨1, false⟩ B.length ((B.set m d).map e8) = (B.set m d).map e8 := by
        have := qq0 ((B.set m d).map e8)
        rwa [List.length_map, hl1] at this
      rw [e3]
      cases hB2 : B.set m d with
      | nil => rw [hB2] at hl1; simp at hl1; omega
      | cons q l => rfl
    have hget : (k9 H1 id (qb5 (B.set m d)))[id]? = some (qb5 (B.set m d)) := qoE hid
    have hb2 : ∀ q ∈ B.set m d, q < 256 := fun q hq => by
      rcases List.mem_or_eq_of_mem_set hq with h | h
      · exact hb q h
      · omega
    have hf : qbL 1 [D.nil, D.nil] [(0, .d x0), (1, .d (slD e8 (B.set m d)))] = some [x0, slD e8 (B.set m d)] := qsM hR qgO
    have ho : slO (some [x0, slD e8 (B.set m d)]) = some (.osl [x0, slD e8 (B.set m d)]) := qu8 hR qgO
    have hl := fun H lo => qja (H := H) hR (by omega) hr (y := slD e8 (B.set m d)) (B := B.set m d) qgO (by simp; omega) hb2 lo
    obtain ⟨lo2, hl⟩ := hl (k9 H1 id .dead) (min (min (min (min 0 lo) lo1) id) id)
    simp only [zi, yr, qi, qvF, Nat.reduceAdd, qp, qvQ, ql, qk, qf, qc, kH, qA, qD, qT, qa, qb, qR, qvT, qG, kF, hk, qS, qH, kL, kC, qr, qm, jm, qvN, qvH, qh, qj, qw, qvA, ↓reduceIte, qI, reduceCtorEq, qs, qn, qN, hR.len, qe, kf, kx, qvK, zy, h200', decide_false, qQ, kh, Bool.not_false, kg, Nat.reduceEqDiff, hs.len, h40', qz, kv, jo, zz, kw, qvM, qC, qK, qvL, e1, qB, ky, qU, q9, jH, qqJ, qbD, jI, jL, qb7, qqD, p1, decide_true, qE, w1, qvR, p2, qr7, w2, qu, hia, qsm, qW, qoM, qoN, hid, hcell, qkx, hxor, zT, qp9, hst, yh, ql0, qsg, hget, hfz, ql7, kE, qjr, qvP, List.reduceReplicate, hf, ho, qaL, jc, qnX, Int.cast_ofNat_Int, qq, zX, qdO, qX, hl, qJ, qM, qd, qx, kq, qg, qo, ko, hfin]
    exact ⟨_, rfl⟩
end W

/-
  The same evaluator, in forms that the kernel reckons fast.
-/
set_option linter.unusedSimpArgs false
set_option linter.unusedVariables false
namespace W
open Go (IntKind BinOp UnOp)
noncomputable def fget (n : Nat) (e : Env) : V := List.rec (motive := fun _ => V) .undef (fun p _ ih => Bool.rec ih p.2 (qvG n p.1)) e
theorem qaO (n : Nat) (e : Env) : fget n e = get n e := by
  induction e with
  | nil => rfl
  | cons p e ih =>
    obtain ⟨m, v⟩ := p
    show Bool.rec (fget n e) v (qvG n m) = bif qvG n m then v else get n e
    rw [ih]
    cases qvG n m <;> rfl
noncomputable def fnth {α : Type} (l : List α) (n : Nat) : Option α :=
  List.rec (motive := fun _ => Nat → Option α) (fun _ => none) (fun x _ ih n => Nat.rec (motive := fun _ => Option α) (some x) (fun m _ => ih m) n) l n
theorem qaH {α : Type} (l : List α) (n : Nat) : fnth l n = l[n]? := by
  induction l generalizing n with
  | nil => rfl
  | cons x l ih =>
    cases n with
    | zero => rfl
    | succ n => exact ih n
noncomputable def frd (e : Env) (o : O) : V := O.rec (motive := fun _ => V) (fun n => qcJ n (fget n e)) (fun x => .d x) (fun i => .fn i [] []) (fun n => qeL (fget n e)) (fun _ x => .cp x) o
theorem qdc (e : Env) (o : O) : frd e o = rd e o := by cases o <;> simp only [frd, qaO] <;> rfl
noncomputable def kY {α : Type} (a : Nat) (k : Nat → α) : α := Nat.rec (motive := fun _ => α) (k 0) (fun m _ => k (Nat.succ m)) a
noncomputable def qjd {α : Type} (n : Int) (k : Int → α) : α := Int.rec (motive := fun _ => α) (fun a => kY a fun a => k (.ofNat a)) (fun a => kY a fun a => k (.negSucc a)) n
noncomputable def qnJ {α : Type} (b : Bool) (k : Bool → α) : α := Bool.rec (motive := fun _ => α) (k false) (k true) b
theorem qaV {α : Type} (a : Nat) (k : Nat → α) : kY a k = k a := by cases a <;> rfl
theorem qhW {α : Type} (n : Int) (k : Int → α) : qjd n k = k n := by
  cases n with
  | ofNat a => exact qaV a fun a => k (.ofNat a)
  | negSucc a => exact qaV a fun a => k (.negSucc a)
theorem qkc {α : Type} (b : Bool) (k : Bool → α) : qnJ b k = k b := by cases b <;> rfl
noncomputable def qnE {α : Type} (l : List Nat) (k : List Nat → α) : α :=
  List.rec (motive := fun _ => (List Nat → α) → α) (fun k => k []) (fun x _ ih k => kY x fun x => ih fun r => k (x :: r)) l k
theorem qpz {α : Type} (l : List Nat) (k : List Nat → α) : qnE l k = k l := by
  induction l generalizing k with
  | nil => rfl
  | cons x l ih => exact (qaV x fun x => qnE l fun r => k (x :: r)).trans (ih fun r => k (x :: r))
noncomputable def yW {β α : Type} (f : β → (β → α) → α) (l : List β) (k : List β → α) : α :=
  List.rec (motive := fun _ => (List β → α) → α) (fun k => k []) (fun x _ ih k => f x fun x => ih fun r => k (x :: r)) l k
theorem jx {β α : Type} {f : β → (β → α) → α} (hf : ∀ x k, f x k = k x) (l : List β) (k : List β → α) : yW f l k = k l := by
  induction l generalizing k with
  | nil => rfl
  | cons x l ih => exact (hf x fun x => yW f l fun r => k (x :: r)).trans (ih fun r => k (x :: r))
noncomputable def qez {α : Type} (x : D) (k : D → α) : α :=
  D.casesOn (motive_1 := fun _ => α) x (fun z => qnJ z fun z => k (.b z)) (fun kk n => qjd n fun n => k (.i kk n)) (fun t => k (.s t)) (k .nil) (fun xs => k (.sl xs)) (fun cs => k (.agg cs)) (k .np) (k .nf) (k .ni) (k .nm)
theorem qcb {α : Type} (x : D) (k : D → α) : qez x k = k x := by
  cases x with
  | b z => exact qkc z fun z => k (.b z)
  | i kk n => exact qhW n fun n => k (.i kk n)
  | _ => rfl
noncomputable def qqf {α : Type} (x : D) (k : D → α) : α :=
  D.casesOn (motive_1 := fun _ => α) x (fun z => qnJ z fun z => k (.b z)) (fun kk n => qjd n fun n => k (.i kk n)) (fun t => qnE t fun t => k (.s t)) (k .nil) (fun xs => yW qez xs fun xs => k (.sl xs)) (fun cs => yW qez cs fun cs => k (.agg cs)) (k .np) (k .nf) (k .ni) (k .nm)
theorem qpv {α : Type} (x : D) (k : D → α) : qqf x k = k x := by
  cases x with
  | b z => exact qkc z fun z => k (.b z)
  | i kk n => exact qhW n fun n => k (.i kk n)
  | s t => exact qpz t fun t => k (.s t)
  | sl xs => exact jx qcb xs fun xs => k (.sl xs)
  | agg xs => exact jx qcb xs fun xs => k (.agg xs)
  | _ => rfl
noncomputable def qao {α : Type} (v : V) (k : V → α) : α :=
  V.casesOn (motive_1 := fun _ => α) v (fun x => qez x fun x => k (.d x)) (fun xs => k (.osl xs)) (fun xs => k (.fsl xs)) (fun i o => kY i fun i => kY o fun o => k (.ptr i o)) (fun i o => kY i fun i => kY o fun o => k (.lp i o)) (fun cs => k (.box cs)) (fun x => k (.cp x))
    (fun i o n c => k (.rs i o n c)) (fun i o n => kY i fun i => kY o fun o => kY n fun n => k (.row i o n)) (fun i => kY i fun i => k (.map i)) (fun f a b => k (.fn f a b)) (fun t x => k (.ifc t x)) (fun cs => k (.agg cs)) (fun vs => k (.tup vs)) (k .undef)
theorem y4 {α : Type} (v : V) (k : V → α) : qao v k = k v := by
  cases v with
  | d x => exact qcb x fun x => k (.d x)
  | _ => simp only [qao, qaV]
noncomputable def qcC {α : Type} (v : V) (k : V → α) : α :=
  V.casesOn (motive_1 := fun _ => α) v (fun x => qqf x fun x => k (.d x)) (fun xs => yW qez xs fun xs => k (.osl xs)) (fun xs => yW qez xs fun xs => k (.fsl xs)) (fun i o => kY i fun i => kY o fun o => k (.ptr i o)) (fun i o => kY i fun i => kY o fun o => k (.lp i o)) (fun cs => yW qao cs fun cs => k (.box cs)) (fun x => qez x fun x => k (.cp x))
    (fun i o n c => kY i fun i => kY o fun o => kY n fun n => kY c fun c => k (.rs i o n c)) (fun i o n => kY i fun i => kY o fun o => kY n fun n => k (.row i o n)) (fun i => kY i fun i => k (.map i)) (fun f a b => kY f fun f => k (.fn f a b)) (fun t x => k (.ifc t x)) (fun cs => yW qao cs fun cs => k (.agg cs)) (fun vs => yW qao vs fun vs => k (.tup vs)) (k .undef)
theorem qcj {α : Type} (v : V) (k : V → α) : qcC v k = k v := by
  cases v with
  | d x => exact qpv x fun x => k (.d x)
  | osl xs => exact jx qcb xs fun xs => k (.osl xs)
  | fsl xs => exact jx qcb xs fun xs => k (.fsl xs)
  | box cs => exact jx y4 cs fun cs => k (.box cs)
  | cp x => exact qcb x fun x => k (.cp x)
  | agg cs => exact jx y4 cs fun cs => k (.agg cs)
  | tup cs => exact jx y4 cs fun cs => k (.tup cs)
  | _ => simp only [qcC, qaV]
noncomputable def qqe {α : Type} (o : Obj) (k : Obj → α) : α :=
  Obj.casesOn (motive := fun _ => α) o (fun cs => yW qao cs fun cs => k (.cells cs)) (fun es => yW (fun p k => qao p.2 fun v => k (p.1, v)) es fun es => k (.map es)) (fun l cs => yW qao cs fun cs => k (.row l cs)) (k .dead)
theorem qo3 {α : Type} (o : Obj) (k : Obj → α) : qqe o k = k o := by
  cases o with
  | cells cs => exact jx y4 cs fun cs => k (.cells cs)
  | map es => exact jx (fun p k => y4 p.2 fun v => k (p.1, v)) es fun es => k (.map es)
  | row l cs => exact jx y4 cs fun cs => k (.row l cs)
  | dead => rfl
noncomputable def qhP {α : Type} (H : List Obj) (k : List Obj → α) : α := yW (fun o k => qqe o k) H k
theorem qjY {α : Type} (H : List Obj) (k : List Obj → α) : qhP H k = k H := jx qo3 _ _
noncomputable def qnR (l : L) (off : Nat) (cs : List V) : Option V := Bool.rec (motive := fun _ => Option V) ((fnth cs off).map yS) (V.part off l cs) l.agg
noncomputable def qk0 (l : L) (st : St) (v : V) : Option V :=
  match v with
  | .lp s off => match fget s st.env with
    | .box cs => qnR l off cs
    | _ => none
  | .ptr id off => match fnth st.H id with
    | some (.cells cs) => qnR l off cs
    | some (.row _ cs) => qnR l off cs
    | _ => none
  | v => zE l st v
theorem qti (l : L) (off : Nat) (cs : List V) : qnR l off cs = V.part off l cs := by
  obtain ⟨n, agg⟩ := l
  cases agg with
  | true => rfl
  | false => show (fnth cs off).map yS = _; rw [qaH]; simp [V.part]
theorem qnH : qk0 = zE := by
  funext l st v
  cases v <;> simp only [qk0, qti, qaO, qaH] <;> rfl
noncomputable def qtX (x : O) (st : St) : Option Or := ok (frd st.env x) { st with env := spent x st.env }
noncomputable def qp3 (c : O) (a : O) (b : O) (st : St) : Option Or :=
  match frd st.env c with
    | .d (.b z) => ok (Bool.rec (motive := fun _ => V) (frd st.env b) (frd st.env a) z) st
    | _ => none
noncomputable def qre (mv : Bool) (sl : Option Nat) (l : L) (a : O) (st : St) : Option Or :=
  Bool.rec (motive := fun _ => Option Or) (bif !zf sl (frd st.env a) then none else (match qk0 l st (frd st.env a) with | some v => ok v st | none => none)) (qaZ true sl l a st) mv
noncomputable def qhI (x : O) (st : St) : Option Or :=
  match frd st.env x with
    | .ptr id off => ok (.ptr id off) st
    | .lp s off => ok (.lp s off) st
    | .cp y => ok (.cp y) st
    | _ => none
noncomputable def qtG (op : BinOp) (kd : Kd) (x : O) (y : O) (st : St) : Option Or :=
  match qb2 op kd (isC x || isC y) (frd st.env x) (frd st.env y) with
    | some v => ok v st
    | none => none
noncomputable def qge (x : O) (off : Nat) (l : L) (st : St) : Option Or :=
  match frd st.env x with
    | .ptr id o => ok (.ptr id (o + off)) st
    | .lp s o => ok (.lp s (o + off)) st
    | _ => zL x off l st
noncomputable def qgc (x : O) (i : O) (size : Nat) (arr : Option Nat) (st : St) : Option Or :=
  match frd st.env i with
    | .d (.i _ n) => match arr with
      | some len => bif leI 0 n && !leI len n then (match frd st.env x with
        | .ptr id o => ok (.ptr id (o + n.toNat * size)) st
        | .lp s o => ok (.lp s (o + n.toNat * size)) st
        | .cp (.agg cs) => bif qvG size 1 then (match fnth cs n.toNat with
          | some y => if y.one then ok (.cp y) st else none
          | none => none) else none
        | _ => none) else none
      | none => bif leI 0 n then (match frd st.env x with
        | .d (.sl xs) => match fnth xs n.toNat with
          | some y => bif qvG y.cells.length size then ok (.cp y) st else none
          | none => none
        | .rs id o len _ => bif !leI len n && qvG size 1 then ok (.ptr id (o + n.toNat)) st else none
        | .row id sz len => bif !leI len n && qvG size sz then ok (.ptr id (n.toNat * sz)) st else none
        | _ => none) else none
    | _ => none
noncomputable def qmU (x : O) (i : O) (st : St) : Option Or :=
  match frd st.env x, frd st.env i with
    | .d (.s t), .d (.i _ n) => bif leI 0 n then (match fnth t n.toNat with
        | some y => ok (.d (.i .u8 y)) st
        | none => none) else none
    | _, _ => none
noncomputable def qiO (x : O) (i : Nat) (st : St) : Option Or :=
  match x with
    | .t n => match fget n st.env with
      | .tup vs => match fnth vs i with
        | some v => ok (copy v) st
        | none => none
      | _ => none
    | _ => none
noncomputable def qbo {α : Type} (l : List α) : Nat := List.rec (motive := fun _ => Nat) 0 (fun _ _ ih => Nat.succ ih) l
theorem yB {α : Type} (l : List α) : qbo l = l.length := by
  induction l with
  | nil => rfl
  | cons x l ih => simp only [qvP, ← ih]; rfl
noncomputable def qsT (x : O) (st : St) : Option Or :=
  match frd st.env x with
    | .d (.s t) => ok (.d (.i .i64 (qbo t))) st
    | _ => none
noncomputable def qsW (x : O) (st : St) : Option Or :=
  match frd st.env x with
    | .d .nil => ok (.d (.i .i64 0)) st
    | .d (.sl xs) => ok (.d (.i .i64 (qbo xs))) st
    | .rs _ _ n _ => ok (.d (.i .i64 n)) st
    | .row _ _ n => ok (.d (.i .i64 n)) st
    | _ => none
noncomputable def fBi (b : Bi) (args : List O) (st : St) : Option Or :=
  match b, args with
    | .lenS, [x] => qsT x st
    | .lenL, [x] => qsW x st
    | b, l => eBi b l st
noncomputable def qc5 (call : Call) (k : OpK) (st : St) : Option Or :=
  match k with
  | .mov x => qtX x st
  | .pick c a b => qp3 c a b st
  | .load mv sl l a => qre mv sl l a st
  | .nilCheck x => qhI x st
  | .bin op kd x y => qtG op kd x y st
  | .fieldAddr x off l => qge x off l st
  | .indexAddr x i size arr => qgc x i size arr st
  | .index x i => qmU x i st
  | .extract x i => qiO x i st
  | .bi b args => fBi b args st
  | k => qy call k st
theorem qpp : qc5 = qy := by
  funext call k st
  cases k with
  | mov x => simp only [qc5, qtX, qdc]; rfl
  | pick c a b =>
    simp only [qc5, qp3, qdc, qy, qeM]
    cases rd st.env c with
    | d w => cases w with
      | b z => cases z <;> rfl
      | _ => rfl
    | _ => rfl
  | load mv sl l a => cases mv <;> simp only [qc5, qre, qdc, qnH] <;> rfl
  | nilCheck x => simp only [qc5, qhI, qdc]; rfl
  | bin op kd x y => simp only [qc5, qtG, qdc]; rfl
  | fieldAddr x off l =>
    simp only [qc5, qge, qdc, qy]
    split <;> rename_i h <;> (try simp only [zL, h])
  | indexAddr x i size arr => simp only [qc5, qgc, qdc, qaH]; rfl
  | index x i => simp only [qc5, qmU, qdc, qaH]; rfl
  | extract x i => simp only [qc5, qiO, qaO, qaH]; rfl
  | bi b args =>
    simp only [qc5, fBi, qy]
    split
    · rename_i x; simp only [qsT, qdc, yB]; rfl
    · rename_i x
      simp only [qsW, qdc, yB]
      show _ = qcI x st
      unfold qcI
      cases rd st.env x with
      | d w => cases w <;> rfl
      | _ => rfl
    · rfl
  | _ => rfl
noncomputable def makes (k : OpK) : Bool :=
  match k with
  | .mov _ => false
  | .load _ _ _ _ => false
  | .extract _ _ => false
  | .pick _ _ _ => false
  | .nilCheck _ => false
  | .store _ _ _ _ => false
  | .call _ _ => false
  | .indexAddr _ _ _ _ => false
  | .fieldAddr _ _ _ => false
  | .field _ _ _ => false
  | _ => true
noncomputable def qno {α : Type} (m : Bool) (v : V) (k : V → α) : α := Bool.rec (motive := fun _ => α) (qao v k) (qcC v k) m
theorem qo5 {α : Type} (m : Bool) (v : V) (k : V → α) : qno m v k = k v := by
  cases m
  · exact y4 v k
  · exact qcj v k
end W

/-
  Code turned into closures, which the kernel works out once; each operation its own closure.
-/
set_option linter.unusedSimpArgs false
set_option linter.unusedVariables false
namespace W
open Go (IntKind BinOp UnOp)
abbrev R := Option (Ex × St)
abbrev KF := Call → Nat → Env → List Obj → Nat → R
inductive K where
  | mk (f : KF)
noncomputable def K.run (k : K) : KF := K.rec (motive := fun _ => KF) (fun f => f) k
inductive KO where
  | mk (f : Env → V)
noncomputable def KO.run (k : KO) : Env → V := KO.rec (motive := fun _ => Env → V) (fun f => f) k
noncomputable def jJ (o : O) : KO := O.rec (motive := fun _ => KO) (fun n => .mk fun e => fget n e) (fun x => .mk fun _ => .d x) (fun i => .mk fun _ => .fn i [] []) (fun n => .mk fun e => qeL (fget n e)) (fun _ x => .mk fun _ => .cp x) o
def V.isBox : V → Bool
  | .box _ => true
  | _ => false
def V.pl : V → Prop
  | .box _ => False
  | .osl _ => False
  | .agg _ => False
  | _ => True
theorem jB {o : O} {e : Env} (h : ((jJ o).run e).pl) : rd e o = (jJ o).run e := by
  cases o with
  | t n =>
    have h : (fget n e).pl := h
    show qcJ n (get n e) = fget n e
    rw [← qaO]
    cases hv : fget n e <;> rw [hv] at h <;> first | rfl | exact h.elim
  | mv n =>
    show qeL (get n e) = qeL (fget n e)
    rw [qaO]
  | _ => rfl
inductive OI where
  | no
  | yes (k : IntKind) (n : Int)
noncomputable def vI (v : V) : OI := V.rec (motive_1 := fun _ => OI) (motive_2 := fun _ => OI) (fun x => D.rec (motive_1 := fun _ => OI) (motive_2 := fun _ => OI) (fun _ => .no) (fun k n => .yes k n) (fun _ => .no) .no (fun _ _ => .no) (fun _ _ => .no) .no .no .no .no .no (fun _ _ _ _ => .no) x) (fun _ => .no) (fun _ => .no) (fun _ _ => .no) (fun _ _ => .no) (fun _ _ => .no) (fun _ => .no) (fun _ _ _ _ => .no) (fun _ _ _ => .no) (fun _ => .no) (fun _ _ _ _ _ => .no) (fun _ _ _ => .no) (fun _ _ => .no) (fun _ _ => .no) .no .no (fun _ _ _ _ => .no) v
theorem qte {v : V} {k : IntKind} {n : Int} (h : vI v = .yes k n) : v = .d (.i k n) := by
  cases v with
  | d x => cases x with
    | i k' n' => have h : OI.yes k' n' = .yes k n := h; cases h; rfl
    | _ => cases h
  | _ => cases h
inductive OB where
  | no | f | t
noncomputable def vB (v : V) : OB := V.rec (motive_1 := fun _ => OB) (motive_2 := fun _ => OB) (fun x => D.rec (motive_1 := fun _ => OB) (motive_2 := fun _ => OB) (fun y => Bool.rec (motive := fun _ => OB) .f .t y) (fun _ _ => .no) (fun _ => .no) .no (fun _ _ => .no) (fun _ _ => .no) .no .no .no .no .no (fun _ _ _ _ => .no) x) (fun _ => .no) (fun _ => .no) (fun _ _ => .no) (fun _ _ => .no) (fun _ _ => .no) (fun _ => .no) (fun _ _ _ _ => .no) (fun _ _ _ => .no) (fun _ => .no) (fun _ _ _ _ _ => .no) (fun _ _ _ => .no) (fun _ _ => .no) (fun _ _ => .no) .no .no (fun _ _ _ _ => .no) v
theorem qvs {v : V} (h : vB v = .t) : v = .d (.b true) := by
  cases v with
  | d x => cases x with
    | b y => cases y with
      | true => rfl
      | false => cases h
    | _ => cases h
  | _ => cases h
theorem qvi {v : V} (h : vB v = .f) : v = .d (.b false) := by
  cases v with
  | d x => cases x with
    | b y => cases y with
      | false => rfl
      | true => cases h
    | _ => cases h
  | _ => cases h
inductive OP where
  | no
  | p (id off : Nat)
  | l (s off : Nat)
  | c (x : D)
noncomputable def vP (v : V) : OP := V.rec (motive_1 := fun _ => OP) (motive_2 := fun _ => OP) (fun _ => .no) (fun _ => .no) (fun _ => .no) (fun a b => .p a b) (fun a b => .l a b) (fun _ _ => .no) (fun x => .c x) (fun _ _ _ _ => .no) (fun _ _ _ => .no) (fun _ => .no) (fun _ _ _ _ _ => .no) (fun _ _ _ => .no) (fun _ _ => .no) (fun _ _ => .no) .no .no (fun _ _ _ _ => .no) v
theorem qvn {v : V} {a b : Nat} (h : vP v = .p a b) : v = .ptr a b := by
  cases v with
  | ptr c d => have h : OP.p c d = .p a b := h; cases h; rfl
  | _ => cases h
theorem qvl {v : V} {a b : Nat} (h : vP v = .l a b) : v = .lp a b := by
  cases v with
  | lp c d => have h : OP.l c d = .l a b := h; cases h; rfl
  | _ => cases h
theorem qvg {v : V} {x : D} (h : vP v = .c x) : v = .cp x := by
  cases v with
  | cp y => have h : OP.c y = .c x := h; cases h; rfl
  | _ => cases h
inductive OL where
  | no | nil
  | sl (xs : List D)
noncomputable def vL (v : V) : OL := V.rec (motive_1 := fun _ => OL) (motive_2 := fun _ => OL) (fun x => D.rec (motive_1 := fun _ => OL) (motive_2 := fun _ => OL) (fun _ => .no) (fun _ _ => .no) (fun _ => .no) .nil (fun xs _ => .sl xs) (fun _ _ => .no) .no .no .no .no .no (fun _ _ _ _ => .no) x) (fun _ => .no) (fun _ => .no) (fun _ _ => .no) (fun _ _ => .no) (fun _ _ => .no) (fun _ => .no) (fun _ _ _ _ => .no) (fun _ _ _ => .no) (fun _ => .no) (fun _ _ _ _ _ => .no) (fun _ _ _ => .no) (fun _ _ => .no) (fun _ _ => .no) .no .no (fun _ _ _ _ => .no) v
theorem qtp {v : V} (h : vL v = .nil) : v = .d .nil := by
  cases v with
  | d x => cases x with
    | nil => rfl
    | _ => cases h
  | _ => cases h
theorem quc {v : V} {xs : List D} (h : vL v = .sl xs) : v = .d (.sl xs) := by
  cases v with
  | d x => cases x with
    | sl ys => have h : OL.sl ys = .sl xs := h; cases h; rfl
    | _ => cases h
  | _ => cases h
inductive OT where
  | no
  | s (t : List Nat)
noncomputable def vT (v : V) : OT := V.rec (motive_1 := fun _ => OT) (motive_2 := fun _ => OT) (fun x => D.rec (motive_1 := fun _ => OT) (motive_2 := fun _ => OT) (fun _ => .no) (fun _ _ => .no) (fun t => .s t) .no (fun _ _ => .no) (fun _ _ => .no) .no .no .no .no .no (fun _ _ _ _ => .no) x) (fun _ => .no) (fun _ => .no) (fun _ _ => .no) (fun _ _ => .no) (fun _ _ => .no) (fun _ => .no) (fun _ _ _ _ => .no) (fun _ _ _ => .no) (fun _ => .no) (fun _ _ _ _ _ => .no) (fun _ _ _ => .no) (fun _ _ => .no) (fun _ _ => .no) .no .no (fun _ _ _ _ => .no) v
theorem quv {v : V} {t : List Nat} (h : vT v = .s t) : v = .d (.s t) := by
  cases v with
  | d x => cases x with
    | s u => have h : OT.s u = .s t := h; cases h; rfl
    | _ => cases h
  | _ => cases h
inductive OU where
  | no
  | t (vs : List V)
noncomputable def vU (v : V) : OU := V.rec (motive_1 := fun _ => OU) (motive_2 := fun _ => OU) (fun _ => .no) (fun _ => .no) (fun _ => .no) (fun _ _ => .no) (fun _ _ => .no) (fun _ _ => .no) (fun _ => .no) (fun _ _ _ _ => .no) (fun _ _ _ => .no) (fun _ => .no) (fun _ _ _ _ _ => .no) (fun _ _ _ => .no) (fun _ _ => .no) (fun vs _ => .t vs) .no .no (fun _ _ _ _ => .no) v
theorem qvj {v : V} {vs : List V} (h : vU v = .t vs) : v = .tup vs := by
  cases v with
  | tup ws => have h : OU.t ws = .t vs := h; cases h; rfl
  | _ => cases h
inductive OF where
  | no
  | f (i : Nat)
noncomputable def qsY (m : Nat) (v : V) (κ : V → R) : R := V.rec (motive_1 := fun _ => R) (motive_2 := fun _ => R) (fun x => κ (.d x)) (fun xs => κ (.d (.sl xs))) (fun xs => κ (.fsl xs)) (fun a b => κ (.ptr a b)) (fun a b => κ (.lp a b)) (fun _ _ => κ (.lp m 0)) (fun x => κ (.cp x)) (fun a b c d => κ (.rs a b c d)) (fun a b c => κ (.row a b c)) (fun a => κ (.map a)) (fun f a b _ _ => κ (.fn f a b)) (fun t x _ => κ (.ifc t x)) (fun cs _ => qcC (qc4 (cs.map yS)) κ) (fun vs _ => κ (.tup vs)) (κ .undef) none (fun _ _ _ _ => none) v
theorem qri (m : Nat) (v : V) (κ : V → R) : qsY m v κ = κ (qcJ m v) := by
  cases v with
  | agg cs => exact qcj _ _
  | _ => rfl
noncomputable def qsP (v : V) (κ : V → R) : R := V.rec (motive_1 := fun _ => R) (motive_2 := fun _ => R) (fun x => κ (.d x)) (fun xs => κ (.osl xs)) (fun xs => κ (.fsl xs)) (fun a b => κ (.ptr a b)) (fun a b => κ (.lp a b)) (fun _ _ => κ .undef) (fun x => κ (.cp x)) (fun a b c d => κ (.rs a b c d)) (fun a b c => κ (.row a b c)) (fun a => κ (.map a)) (fun f a b _ _ => κ (.fn f a b)) (fun t x _ => κ (.ifc t x)) (fun cs _ => κ (.agg cs)) (fun vs _ => κ (.tup vs)) (κ .undef) none (fun _ _ _ _ => none) v
theorem qrC (v : V) (κ : V → R) : qsP v κ = κ (qeL v) := by cases v <;> rfl
noncomputable def qrt (v : V) (κ : V → R) : R := V.rec (motive_1 := fun _ => R) (motive_2 := fun _ => R) (fun x => κ (.d x)) (fun xs => κ (.osl xs)) (fun xs => κ (.fsl xs)) (fun a b => κ (.ptr a b)) (fun _ _ => κ .undef) (fun cs _ => κ (.box cs)) (fun x => κ (.cp x)) (fun a b c d => κ (.rs a b c d)) (fun a b c => κ (.row a b c)) (fun a => κ (.map a)) (fun f a b _ _ => κ (.fn f a b)) (fun t x _ => κ (.ifc t x)) (fun cs _ => κ (.agg cs)) (fun vs _ => κ (.tup vs)) (κ .undef) none (fun _ _ _ _ => none) v
theorem qqO (v : V) (κ : V → R) : qrt v κ = κ (match v with | .lp _ _ => .undef | v => v) := by cases v <;> rfl
noncomputable def qsU (v : V) (κ : V → R) : R := V.rec (motive_1 := fun _ => R) (motive_2 := fun _ => R) (fun x => κ (.d x)) (fun xs => κ (.d (.sl xs))) (fun xs => κ (.fsl xs)) (fun a b => κ (.ptr a b)) (fun a b => κ (.lp a b)) (fun _ _ => none) (fun x => κ (.cp x)) (fun a b c d => κ (.rs a b c d)) (fun a b c => κ (.row a b c)) (fun a => κ (.map a)) (fun f a b _ _ => κ (.fn f a b)) (fun t x _ => κ (.ifc t x)) (fun cs _ => κ (.agg cs)) (fun vs _ => κ (.tup vs)) (κ .undef) none (fun _ _ _ _ => none) v
theorem qnd {v : V} {κ : V → R} {x : Ex × St} (h : qsU v κ = some x) : (yS v).isBox = false ∧ κ (yS v) = some x := by
  cases v <;> first | exact ⟨rfl, h⟩ | cases h
theorem qhG (cs : List V) : (qc4 cs).isBox = false := by unfold qc4; split <;> rfl
noncomputable def qoc (v : V) (κ : V → R) : R := V.rec (motive_1 := fun _ => R) (motive_2 := fun _ => R) (fun x => κ (.d x)) (fun xs => κ (.d (.sl xs))) (fun xs => κ (.fsl xs)) (fun a b => κ (.ptr a b)) (fun a b => κ (.lp a b)) (fun _ _ => none) (fun x => κ (.cp x)) (fun a b c d => κ (.rs a b c d)) (fun a b c => κ (.row a b c)) (fun a => κ (.map a)) (fun f a b _ _ => κ (.fn f a b)) (fun t x _ => κ (.ifc t x)) (fun cs _ => qcC (qc4 (cs.map yS)) κ) (fun vs _ => κ (.tup vs)) (κ .undef) none (fun _ _ _ _ => none) v
theorem qgf {v : V} {κ : V → R} {x : Ex × St} (h : qoc v κ = some x) : (copy v).isBox = false ∧ κ (copy v) = some x := by
  cases v with
  | agg cs =>
    have h : qcC (qc4 (cs.map yS)) κ = some x := h
    rw [qcj] at h
    exact ⟨qhG _, h⟩
  | box cs => cases h
  | _ => exact ⟨rfl, h⟩
noncomputable def qng (v : V) (z : R) (κ : V → R) : R := V.rec (motive_1 := fun _ => R) (motive_2 := fun _ => R) (fun x => κ (.d x)) (fun xs => κ (.osl xs)) (fun xs => κ (.fsl xs)) (fun a b => κ (.ptr a b)) (fun a b => κ (.lp a b)) (fun _ _ => z) (fun x => κ (.cp x)) (fun a b c d => κ (.rs a b c d)) (fun a b c => κ (.row a b c)) (fun a => κ (.map a)) (fun f a b _ _ => κ (.fn f a b)) (fun t x _ => κ (.ifc t x)) (fun cs _ => κ (.agg cs)) (fun vs _ => κ (.tup vs)) (κ .undef) none (fun _ _ _ _ => none) v
theorem qmz {v : V} {z : R} {κ : V → R} {x : Ex × St} (h : qng v z κ = some x) : z = some x ∨ (v.isBox = false ∧ κ v = some x) := by
  cases v <;> first | exact .inr ⟨rfl, h⟩ | exact .inl h
inductive KR where
  | mk (f : Env → (V → R) → R)
noncomputable def KR.run (k : KR) : Env → (V → R) → R := KR.rec (motive := fun _ => Env → (V → R) → R) (fun f => f) k
noncomputable def rdC (o : O) : KR := O.rec (motive := fun _ => KR) (fun n => .mk fun e κ => qsY n (fget n e) κ) (fun x => .mk fun _ κ => κ (.d x)) (fun i => .mk fun _ κ => κ (.fn i [] [])) (fun n => .mk fun e κ => qsP (fget n e) κ) (fun _ x => .mk fun _ κ => κ (.cp x)) o
theorem qfo (o : O) (e : Env) (κ : V → R) : (rdC o).run e κ = κ (rd e o) := by
  cases o with
  | t n => exact (qri n (fget n e) κ).trans (by rw [qaO]; rfl)
  | mv n => exact (qrC (fget n e) κ).trans (by rw [qaO]; rfl)
  | _ => rfl
inductive KE where
  | mk (f : Env → Env)
noncomputable def KE.run (k : KE) : Env → Env := KE.rec (motive := fun _ => Env → Env) (fun f => f) k
noncomputable def spC (o : O) (r : KE) : KE := O.rec (motive := fun _ => KE) (fun _ => r) (fun _ => r) (fun _ => r) (fun n => .mk fun e => r.run ((n, .undef) :: e)) (fun _ _ => r) o
noncomputable def spL (l : List O) : KE := List.rec (motive := fun _ => KE) (.mk fun e => e) (fun o _ ih => spC o ih) l
theorem qtZ (l : List O) (e : Env) : (spL l).run e = spentAll l e := by
  induction l generalizing e with
  | nil => rfl
  | cons o l ih =>
    show (spC o (spL l)).run e = spentAll l (spent o e)
    cases o <;> first | exact ih _ | exact ih e
noncomputable def spO (o : O) : KE := spC o (.mk fun e => e)
theorem qhr (o : O) (e : Env) : (spO o).run e = spent o e := by cases o <;> rfl
inductive KA where
  | mk (f : Env → (List V → R) → R)
noncomputable def KA.run (k : KA) : Env → (List V → R) → R := KA.rec (motive := fun _ => Env → (List V → R) → R) (fun f => f) k
noncomputable def qtD (l : List O) : KA := List.rec (motive := fun _ => KA) (.mk fun _ κ => κ []) (fun o _ ih => .mk fun e κ => (rdC o).run e fun v => ih.run e fun r => κ (v :: r)) l
theorem qrQ (l : List O) (e : Env) (κ : List V → R) : (qtD l).run e κ = κ (l.map (rd e)) := by
  induction l generalizing κ with
  | nil => rfl
  | cons o l ih =>
    show (rdC o).run e (fun v => (qtD l).run e fun r => κ (v :: r)) = _
    rw [qfo, ih]; rfl
noncomputable def iadd (a b : Int) : Int := Int.rec (motive := fun _ => Int) (fun m => Int.rec (motive := fun _ => Int) (fun n => .ofNat (Nat.add m n)) (fun n => a + b) b) (fun _ => a + b) a
theorem qsy (a b : Int) : iadd a b = a + b := by cases a <;> cases b <;> rfl
noncomputable def imul (a b : Int) : Int := Int.rec (motive := fun _ => Int) (fun m => Int.rec (motive := fun _ => Int) (fun n => .ofNat (Nat.mul m n)) (fun n => a * b) b) (fun _ => a * b) a
theorem qsn (a b : Int) : imul a b = a * b := by cases a <;> cases b <;> rfl
noncomputable def isub (a b : Int) : Int := Int.rec (motive := fun _ => Int) (fun m => Int.rec (motive := fun _ => Int) (fun n => Bool.rec (motive := fun _ => Int) (a - b) (.ofNat (Nat.sub m n)) (Nat.ble n m)) (fun n => a - b) b) (fun _ => a - b) a
theorem qr5 (a b : Int) : isub a b = a - b := by
  cases a with
  | ofNat m => cases b with
    | ofNat n =>
      show Bool.rec (motive := fun _ => Int) (Int.ofNat m - Int.ofNat n) (Int.ofNat (Nat.sub m n)) (Nat.ble n m) = _
      cases h : Nat.ble n m with
      | false => rfl
      | true =>
        have := Nat.le_of_ble_eq_true h
        show Int.ofNat (m - n) = Int.ofNat m - Int.ofNat n
        simp only [Int.ofNat_eq_natCast]; omega
    | negSucc n => rfl
  | negSucc m => rfl
noncomputable def ile (a b : Int) : Bool := Int.rec (motive := fun _ => Bool) (fun m => Int.rec (motive := fun _ => Bool) (fun n => Nat.ble m n) (fun _ => false) b) (fun m => Int.rec (motive := fun _ => Bool) (fun _ => true) (fun n => Nat.ble n m) b) a
theorem qk2 (a b : Int) : ile a b = leI a b := by cases a <;> cases b <;> rfl
noncomputable def ieq (a b : Int) : Bool := Int.rec (motive := fun _ => Bool) (fun m => Int.rec (motive := fun _ => Bool) (fun n => qvG m n) (fun _ => false) b) (fun m => Int.rec (motive := fun _ => Bool) (fun _ => false) (fun n => qvG m n) b) a
theorem qrp (a b : Int) : ieq a b = eqI a b := by cases a <;> cases b <;> rfl
noncomputable def kcode (k : IntKind) : Nat := IntKind.rec (motive := fun _ => Nat) 0 1 2 3 4 5 6 7 k
theorem qmn (a b : IntKind) : qvG (kcode a) (kcode b) = eqK a b := by cases a <;> cases b <;> rfl
noncomputable def kmax (k : IntKind) : Nat := IntKind.rec (motive := fun _ => Nat) 127 32767 2147483647 9223372036854775807 255 65535 4294967295 18446744073709551615 k
theorem qsw (k : IntKind) : kmax k = qfY k := by cases k <;> rfl
noncomputable def iwr (k : IntKind) (z : Int) : Int := Int.rec (motive := fun _ => Int) (fun a => Bool.rec (motive := fun _ => Int) (wr k (.ofNat a)) (.ofNat a) (Nat.ble a (kmax k))) (fun a => wr k (.negSucc a)) z
theorem qtk (k : IntKind) (z : Int) : iwr k z = wr k z := by
  cases z with
  | ofNat a =>
    show Bool.rec (motive := fun _ => Int) (wr k (.ofNat a)) (.ofNat a) (Nat.ble a (kmax k)) = _
    rw [qsw]
    cases h : Nat.ble a (qfY k) with
    | false => rfl
    | true => simp only [wr, h, cond_true]
  | negSucc a => rfl
noncomputable def inot (b : Bool) : Bool := Bool.rec (motive := fun _ => Bool) true false b
theorem qkQ (b : Bool) : inot b = !b := by cases b <;> rfl
def qqy (pg : Pg) (r : R) (k : K) (call : Call) (n : Nat) (x : Ex × St) : Prop := (∃ s, r = some (.nrm, s) ∧ k.run call n s.env s.H s.lo = some x) ∨ (r = some x ∧ x.1 ≠ .nrm)
def qka (r : Option Or) (dst : Option Nat) (k : K) (call : Call) (n : Nat) (x : Ex × St) : Prop :=
  ∃ q, r = some q ∧ ((q.pan = false ∧ ∃ st, put dst q.v q.st = st ∧ k.run call n st.env st.H st.lo = some x) ∨ (q.pan = true ∧ x = (.pan q.v, q.st)))
def jf (f : KF) (op : OpK) (dst : Option Nat) (k : K) : Prop := ∀ {call : Call} {n : Nat} {e : Env} {H : List Obj} {lo : Nat} {x : Ex × St}, f call n e H lo = some x → qka (qy call op ⟨e, H, lo⟩) dst k call n x
noncomputable def qg5 (dst : Option Nat) (v : V) (k : K) : KF := fun call n e H lo => match put dst v ⟨e, H, lo⟩ with | ⟨e, H, lo⟩ => k.run call n e H lo
theorem qgd {dst : Option Nat} {v : V} {same : Bool} {k : K} {call : Call} {n : Nat} {e : Env} {H : List Obj} {lo : Nat} {x : Ex × St} (h : qg5 dst v k call n e H lo = some x) : qka (some ⟨false, same, v, ⟨e, H, lo⟩⟩) dst k call n x := by
  refine ⟨_, rfl, .inl ⟨rfl, _, rfl, ?_⟩⟩
  exact h
theorem kz {d : Nat} {v : V} {same : Bool} {k : K} {call : Call} {n : Nat} {e : Env} {H : List Obj} {lo : Nat} {x : Ex × St} (hv : v.isBox = false) (h : k.run call n ((d, v) :: e) H lo = some x) : qka (some ⟨false, same, v, ⟨e, H, lo⟩⟩) (some d) k call n x := by
  refine ⟨_, rfl, .inl ⟨rfl, _, rfl, ?_⟩⟩
  cases v <;> first | exact h | cases hv
inductive KS where
  | mk (f : Call → St → Option Or)
noncomputable def KS.run (k : KS) : Call → St → Option Or := KS.rec (motive := fun _ => Call → St → Option Or) (fun f => f) k
noncomputable def quC (op : OpK) : KS :=
  match op with
  | .mov x => .mk fun _ st => qtX x st
  | .pick c a b => .mk fun _ st => qp3 c a b st
  | .alloc loc zero => .mk fun _ st => qc8 loc zero st
  | .box loc x => .mk fun _ st => qiq loc x st
  | .build zero parts => .mk fun _ st => qbX zero parts st
  | .buildSlice zero len parts => .mk fun _ st => zR zero len parts st
  | .load mv sl l a => .mk fun _ st => qre mv sl l a st
  | .loadC l a => .mk fun _ st => qcF l a st
  | .store sl l a x => .mk fun _ st => qbS sl l a x st
  | .nilCheck x => .mk fun _ st => qhI x st
  | .bin op kd x y => .mk fun _ st => qtG op kd x y st
  | .un op x => .mk fun _ st => eUn op x st
  | .conv k x => .mk fun _ st => qeP k x st
  | .mkFn f first cap => .mk fun _ st => qf2 f first cap st
  | .sliceS x lo hi => .mk fun _ st => qcn x lo hi st
  | .fieldAddr x off l => .mk fun _ st => qge x off l st
  | .field x off l => .mk fun _ st => qdG x off l st
  | .indexAddr x i size arr => .mk fun _ st => qgc x i size arr st
  | .index x i => .mk fun _ st => qmU x i st
  | .lookup kk zero m k c => .mk fun _ st => qbk kk zero m k c st
  | .mapUpdate kk m k x => .mk fun _ st => jT kk m k x st
  | .extract x i => .mk fun _ st => qiO x i st
  | .bi b args => .mk fun _ st => fBi b args st
  | .call f args => .mk fun call st => qcH call f args st
  | op => .mk fun call st => qy call op st
theorem qst (op : OpK) (call : Call) (st : St) : (quC op).run call st = qy call op st := by
  rw [← qpp]
  cases op <;> rfl
noncomputable def qtC (dst : Option Nat) (op : OpK) (k : K) : KF := fun call n e H lo =>
  match (quC op).run call ⟨e, H, lo⟩ with
  | some ⟨pan, same, v, ⟨e', H', lo'⟩⟩ => Bool.rec (motive := fun _ => R)
      (qno (makes op) v fun v => Bool.rec (motive := fun _ => R) (qhP H' fun H' => kY lo' fun lo' => qg5 dst v k call n e' H' lo') (qg5 dst v k call n e' H' lo') same)
      (some (.pan v, ⟨e', H', lo'⟩)) pan
  | none => none
theorem qpi {dst : Option Nat} {op : OpK} {k : K} : jf (qtC dst op k) op dst k := by
  intro call n e H lo x h
  unfold qtC at h
  rw [qst] at h
  split at h
  · rename_i pan same v e' H' lo' hq
    rw [hq]
    cases pan with
    | false =>
      have h : (qno (makes op) v fun v => Bool.rec (motive := fun _ => R) (qhP H' fun H' => kY lo' fun lo' => qg5 dst v k call n e' H' lo') (qg5 dst v k call n e' H' lo') same) = some x := h
      rw [qo5] at h
      have h2 : qg5 dst v k call n e' H' lo' = some x := by
        cases same with
        | false => simpa only [qjY, qaV] using h
        | true => exact h
      exact qgd h2
    | true =>
      have h : some (Ex.pan v, (⟨e', H', lo'⟩ : St)) = some x := h
      cases h
      exact ⟨_, rfl, .inr ⟨rfl, rfl⟩⟩
  · cases h
noncomputable def asN (v : V) (z : R) (κ : IntKind → Int → R) : R := OI.rec (motive := fun _ => R) z κ (vI v)
theorem qdQ {v : V} {z : R} {κ : IntKind → Int → R} {x : Ex × St} (h : asN v z κ = some x) : z = some x ∨ ∃ k n, v = .d (.i k n) ∧ κ k n = some x := by
  unfold asN at h
  cases hv : vI v with
  | no => rw [hv] at h; exact .inl h
  | yes k n => rw [hv] at h; exact .inr ⟨k, n, qte hv, h⟩
noncomputable def qlO (d : Nat) (f : Int → Int → Bool) (a b : KO) (g k : K) : KF := fun call n e H lo =>
  asN (a.run e) (g.run call n e H lo) fun ka x => asN (b.run e) none fun kb y => Bool.rec (motive := fun _ => R) none (Bool.rec (motive := fun _ => R) (k.run call n ((d, .d (.b false)) :: e) H lo) (k.run call n ((d, .d (.b true)) :: e) H lo) (f x y)) (qvG (kcode ka) (kcode kb))
noncomputable def qrb (d : Nat) (f : Int → Int → Int) (a b : KO) (g k : K) : KF := fun call n e H lo =>
  asN (a.run e) (g.run call n e H lo) fun ka x => asN (b.run e) none fun kb y => Bool.rec (motive := fun _ => R) none (qjd (iwr ka (f x y)) fun z => k.run call n ((d, .d (.i ka z)) :: e) H lo) (qvG (kcode ka) (kcode kb))
theorem qjV {o : O} {e : Env} {k : IntKind} {n : Int} (h : (jJ o).run e = .d (.i k n)) : rd e o = .d (.i k n) := by
  rw [jB (by rw [h]; trivial), h]
theorem qc1 {d : Nat} {f : Int → Int → Bool} {op : BinOp} {x y : O} {g k : K} (hop : qbP op = false) (hf : ∀ kk a b, qdD op kk a b = some (.b (f a b))) (hg : jf g.run (.bin op .num x y) (some d) k) : jf (qlO d f (jJ x) (jJ y) g k) (.bin op .num x y) (some d) k := by
  intro call n e H lo z h
  unfold qlO at h
  rcases qdQ h with h | ⟨ka, a, ha, h⟩
  · exact hg h
  rcases qdQ h with h | ⟨kb, b, hb, h⟩
  · cases h
  rw [qmn] at h
  cases hk : eqK ka kb with
  | false => rw [hk] at h; cases h
  | true =>
    rw [hk] at h
    have he : qy call (.bin op .num x y) ⟨e, H, lo⟩ = some ⟨false, true, .d (.b (f a b)), ⟨e, H, lo⟩⟩ := by
      simp only [qy, qiw, qjV ha, qjV hb, qb2, hop, hk, cond_true, cond_false, hf, qvH, ok]
    rw [he]
    cases hz : f a b with
    | false => rw [hz] at h; exact kz rfl h
    | true => rw [hz] at h; exact kz rfl h
theorem qhO {d : Nat} {f : Int → Int → Int} {op : BinOp} {x y : O} {g k : K} (hop : qbP op = false) (hf : ∀ kk a b, qdD op kk a b = some (.i kk (wr kk (f a b)))) (hg : jf g.run (.bin op .num x y) (some d) k) : jf (qrb d f (jJ x) (jJ y) g k) (.bin op .num x y) (some d) k := by
  intro call n e H lo z h
  unfold qrb at h
  rcases qdQ h with h | ⟨ka, a, ha, h⟩
  · exact hg h
  rcases qdQ h with h | ⟨kb, b, hb, h⟩
  · cases h
  rw [qmn] at h
  cases hk : eqK ka kb with
  | false => rw [hk] at h; cases h
  | true =>
    rw [hk] at h
    have h : (qjd (iwr ka (f a b)) fun z => k.run call n ((d, .d (.i ka z)) :: e) H lo) = some z := h
    rw [qhW, qtk] at h
    have he : qy call (.bin op .num x y) ⟨e, H, lo⟩ = some ⟨false, true, .d (.i ka (wr ka (f a b))), ⟨e, H, lo⟩⟩ := by
      simp only [qy, qiw, qjV ha, qjV hb, qb2, hop, hk, cond_true, cond_false, hf, qvH, ok]
    rw [he]
    exact kz rfl h
noncomputable def gK (dst : Option Nat) (op : OpK) (k : K) : K := .mk (qtC dst op k)
theorem jh {dst : Option Nat} {op : OpK} {k : K} : jf (gK dst op k).run op dst k := qpi
noncomputable def qtF (d : Nat) (op : BinOp) (kd : Kd) (x y : O) (k : K) : K :=
  match op, kd with
  | .add, .num => .mk (qrb d iadd (jJ x) (jJ y) (gK (some d) (.bin .add .num x y) k) k)
  | .sub, .num => .mk (qrb d isub (jJ x) (jJ y) (gK (some d) (.bin .sub .num x y) k) k)
  | .mul, .num => .mk (qrb d imul (jJ x) (jJ y) (gK (some d) (.bin .mul .num x y) k) k)
  | .lss, .num => .mk (qlO d (fun a b => inot (ile b a)) (jJ x) (jJ y) (gK (some d) (.bin .lss .num x y) k) k)
  | .leq, .num => .mk (qlO d ile (jJ x) (jJ y) (gK (some d) (.bin .leq .num x y) k) k)
  | .gtr, .num => .mk (qlO d (fun a b => inot (ile a b)) (jJ x) (jJ y) (gK (some d) (.bin .gtr .num x y) k) k)
  | .geq, .num => .mk (qlO d (fun a b => ile b a) (jJ x) (jJ y) (gK (some d) (.bin .geq .num x y) k) k)
  | .eql, .num => .mk (qlO d ieq (jJ x) (jJ y) (gK (some d) (.bin .eql .num x y) k) k)
  | .neq, .num => .mk (qlO d (fun a b => inot (ieq a b)) (jJ x) (jJ y) (gK (some d) (.bin .neq .num x y) k) k)
  | op, kd => gK (some d) (.bin op kd x y) k
theorem qpI {d : Nat} {op : BinOp} {kd : Kd} {x y : O} {k : K} : jf (qtF d op kd x y k).run (.bin op kd x y) (some d) k := by
  unfold qtF
  split
  · exact qhO rfl (fun kk a b => by rw [qsy]; rfl) jh
  · exact qhO rfl (fun kk a b => by rw [qr5]; rfl) jh
  · exact qhO rfl (fun kk a b => by rw [qsn]; rfl) jh
  · exact qc1 rfl (fun kk a b => by rw [qkQ, qk2]; rfl) jh
  · exact qc1 rfl (fun kk a b => by rw [qk2]; rfl) jh
  · exact qc1 rfl (fun kk a b => by rw [qkQ, qk2]; rfl) jh
  · exact qc1 rfl (fun kk a b => by rw [qk2]; rfl) jh
  · exact qc1 rfl (fun kk a b => by rw [qrp]; rfl) jh
  · exact qc1 rfl (fun kk a b => by rw [qkQ, qrp]; rfl) jh
  · exact jh
theorem qnC (m : Nat) (v : V) : (qcJ m v).isBox = false := by
  cases v with
  | agg cs => exact qhG _
  | _ => rfl
theorem qpm (v : V) : (qeL v).isBox = false := by cases v <;> rfl
theorem qs6 (e : Env) (o : O) : (rd e o).isBox = false := by
  cases o with
  | t n => exact qnC _ _
  | mv n => exact qpm _
  | _ => rfl
noncomputable def qs5 (d : Nat) (x : O) (k : K) : KF := fun call n e H lo => (rdC x).run e fun v => k.run call n ((d, v) :: (spO x).run e) H lo
theorem qpM {d : Nat} {x : O} {k : K} : jf (qs5 d x k) (.mov x) (some d) k := by
  intro call n e H lo z h
  unfold qs5 at h
  rw [qfo, qhr] at h
  exact kz (qs6 e x) h
noncomputable def asP (v : V) (z : R) (p l : Nat → Nat → R) (c : D → R) : R := OP.rec (motive := fun _ => R) z p l c (vP v)
theorem qdk {v : V} {z : R} {p l : Nat → Nat → R} {c : D → R} {x : Ex × St} (h : asP v z p l c = some x) : z = some x ∨ (∃ a b, v = .ptr a b ∧ p a b = some x) ∨ (∃ a b, v = .lp a b ∧ l a b = some x) ∨ ∃ y, v = .cp y ∧ c y = some x := by
  unfold asP at h
  cases hv : vP v with
  | no => rw [hv] at h; exact .inl h
  | p a b => rw [hv] at h; exact .inr (.inl ⟨a, b, qvn hv, h⟩)
  | l a b => rw [hv] at h; exact .inr (.inr (.inl ⟨a, b, qvl hv, h⟩))
  | c y => rw [hv] at h; exact .inr (.inr (.inr ⟨y, qvg hv, h⟩))
noncomputable def qhZ (o : Option Obj) : Option (List V) := Option.rec (motive := fun _ => Option (List V)) none (fun ob => Obj.rec (motive := fun _ => Option (List V)) (fun cs => some cs) (fun _ => none) (fun _ _ => none) none ob) o
theorem qh5 {o : Option Obj} {cs : List V} (h : qhZ o = some cs) : o = some (.cells cs) := by
  cases o with
  | none => cases h
  | some ob => cases ob with
    | cells c => have h : some c = some cs := h; cases h; rfl
    | _ => cases h
noncomputable def qmx (v : V) : Option (List V) := V.rec (motive_1 := fun _ => Option (List V)) (motive_2 := fun _ => Option (List V)) (fun _ => none) (fun _ => none) (fun _ => none) (fun _ _ => none) (fun _ _ => none) (fun cs _ => some cs) (fun _ => none) (fun _ _ _ _ => none) (fun _ _ _ => none) (fun _ => none) (fun _ _ _ _ _ => none) (fun _ _ _ => none) (fun _ _ => none) (fun _ _ => none) none none (fun _ _ _ _ => none) v
theorem qjZ {v : V} {cs : List V} (h : qmx v = some cs) : v = .box cs := by
  cases v with
  | box c => have h : some c = some cs := h; cases h; rfl
  | _ => cases h
noncomputable def orN {α : Type} (o : Option α) (κ : α → R) : R := Option.rec (motive := fun _ => R) none κ o
theorem jn {α : Type} {o : Option α} {κ : α → R} {x : Ex × St} (h : orN o κ = some x) : ∃ a, o = some a ∧ κ a = some x := by
  cases o with
  | none => cases h
  | some a => exact ⟨a, rfl, h⟩
noncomputable def qlT (l : L) (off : Nat) (cs : List V) (κ : V → R) : R := L.rec (motive := fun _ => R) (fun n agg => Bool.rec (motive := fun _ => R) (orN (fnth cs off) fun v => qsU v κ) (orN (V.part off ⟨n, agg⟩ cs) fun v => qcC v κ) agg) l
theorem qjj {l : L} {off : Nat} {cs : List V} {κ : V → R} {x : Ex × St} (h : qlT l off cs κ = some x) : ∃ v, V.part off l cs = some v ∧ v.isBox = false ∧ κ v = some x := by
  obtain ⟨n, agg⟩ := l
  cases agg with
  | false =>
    obtain ⟨v, h1, h2⟩ := jn (o := fnth cs off) h
    rw [qaH] at h1
    obtain ⟨h3, h4⟩ := qnd h2
    exact ⟨_, by simp [V.part, h1], h3, h4⟩
  | true =>
    obtain ⟨v, h1, h2⟩ := jn (o := V.part off ⟨n, true⟩ cs) h
    rw [qcj] at h2
    refine ⟨v, h1, ?_, h2⟩
    simp only [V.part, if_true] at h1
    split at h1
    · cases h1; exact qhG _
    · cases h1
noncomputable def isAgg (x : D) : Option (List D) := D.rec (motive_1 := fun _ => Option (List D)) (motive_2 := fun _ => Option (List D)) (fun _ => none) (fun _ _ => none) (fun _ => none) none (fun _ _ => none) (fun cs _ => some cs) none none none none none (fun _ _ _ _ => none) x
noncomputable def qkl (l : L) (x : D) (κ : V → R) : R := L.rec (motive := fun _ => R) (fun n agg => Option.rec (motive := fun _ => R) (Bool.rec (motive := fun _ => R) (κ (.d x)) none agg) (fun cs => Bool.rec (motive := fun _ => R) none (Bool.rec (motive := fun _ => R) none (κ (.d x)) (qvG (qbo cs) n)) agg) (isAgg x)) l
theorem qij {l : L} {x : D} {κ : V → R} {y : Ex × St} {st : St} (h : qkl l x κ = some y) : zE l st (.cp x) = some (.d x) ∧ κ (.d x) = some y := by
  obtain ⟨n, agg⟩ := l
  cases x with
  | agg cs =>
    cases agg with
    | false => cases h
    | true =>
      have h : Bool.rec (motive := fun _ => R) none (κ (.d (.agg cs))) (qvG (qbo cs) n) = some y := h
      cases hb : qvG (qbo cs) n with
      | false => rw [hb] at h; cases h
      | true =>
        rw [hb] at h
        have := qvJ hb
        rw [yB] at this
        exact ⟨by simp [zE, this], h⟩
  | _ =>
    cases agg with
    | false => exact ⟨rfl, h⟩
    | true => cases h
noncomputable def qsR (d : Nat) (sl : Option Nat) (l : L) (a : O) (g k : K) : KF :=
  Option.rec (motive := fun _ => KF)
    (fun call n e H lo => asP ((jJ a).run e) (g.run call n e H lo) (fun id off => orN (qhZ (fnth H id)) fun cs => qlT l off cs fun v => k.run call n ((d, v) :: e) H lo) (fun _ _ => none) (fun x => qkl l x fun v => k.run call n ((d, v) :: e) H lo))
    (fun s0 call n e H lo => asP ((jJ a).run e) (g.run call n e H lo) (fun _ _ => none) (fun s off => Bool.rec (motive := fun _ => R) none (orN (qmx (fget s e)) fun cs => qlT l off cs fun v => k.run call n ((d, v) :: e) H lo) (qvG s0 s)) (fun _ => none)) sl
theorem qm7 {d : Nat} {sl : Option Nat} {l : L} {a : O} {g k : K} (hg : jf g.run (.load false sl l a) (some d) k) : jf (qsR d sl l a g k) (.load false sl l a) (some d) k := by
  intro call n e H lo z h
  cases sl with
  | none =>
    have h : (asP ((jJ a).run e) (g.run call n e H lo) (fun id off => orN (qhZ (fnth H id)) fun cs => qlT l off cs fun v => k.run call n ((d, v) :: e) H lo) (fun _ _ => none) (fun x => qkl l x fun v => k.run call n ((d, v) :: e) H lo)) = some z := h
    rcases qdk h with h | ⟨id, off, ha, h⟩ | ⟨_, _, _, h⟩ | ⟨y, ha, h⟩
    · exact hg h
    · obtain ⟨cs, hc, h⟩ := jn h
      obtain ⟨v, hv, hb, h⟩ := qjj h
      have hc := qh5 hc
      rw [qaH] at hc
      have ha' : rd e a = .ptr id off := by rw [jB (by rw [ha]; trivial), ha]
      have he : qy call (.load false none l a) ⟨e, H, lo⟩ = some ⟨false, true, v, ⟨e, H, lo⟩⟩ := by
        simp only [qy, qaZ, ha', zf, zE, hc, hv, qvN, cond_false, ok]
      rw [he]; exact kz hb h
    · cases h
    · obtain ⟨h1, h2⟩ := qij (st := ⟨e, H, lo⟩) h
      have ha' : rd e a = .cp y := by rw [jB (by rw [ha]; trivial), ha]
      have he : qy call (.load false none l a) ⟨e, H, lo⟩ = some ⟨false, true, .d y, ⟨e, H, lo⟩⟩ := by
        simp only [qy, qaZ, ha', zf, h1, qvN, cond_false, ok]
      rw [he]; exact kz rfl h2
  | some s0 =>
    have h : (asP ((jJ a).run e) (g.run call n e H lo) (fun _ _ => none) (fun s off => Bool.rec (motive := fun _ => R) none (orN (qmx (fget s e)) fun cs => qlT l off cs fun v => k.run call n ((d, v) :: e) H lo) (qvG s0 s)) (fun _ => none)) = some z := h
    rcases qdk h with h | ⟨_, _, _, h⟩ | ⟨s, off, ha, h⟩ | ⟨_, _, h⟩
    · exact hg h
    · cases h
    · cases hb : qvG s0 s with
      | false => rw [hb] at h; cases h
      | true =>
        rw [hb] at h
        obtain ⟨cs, hc, h⟩ := jn (o := qmx (fget s e)) h
        obtain ⟨v, hv, hbx, h⟩ := qjj h
        have hc := qjZ hc
        rw [qaO] at hc
        have ha' : rd e a = .lp s off := by rw [jB (by rw [ha]; trivial), ha]
        have he : qy call (.load false (some s0) l a) ⟨e, H, lo⟩ = some ⟨false, true, v, ⟨e, H, lo⟩⟩ := by
          simp only [qy, qaZ, ha', zf, zE, hc, hv, hb, qvN, cond_false, ok]
        rw [he]; exact kz hbx h
    · cases h
noncomputable def qnI (d : Nat) (l : L) (a : O) (k : K) : KF := fun call n e H lo => asP ((jJ a).run e) none (fun _ _ => none) (fun _ _ => none) (fun x => qkl l x fun v => k.run call n ((d, v) :: e) H lo)
theorem ql1 {d : Nat} {l : L} {a : O} {k : K} : jf (qnI d l a k) (.loadC l a) (some d) k := by
  intro call n e H lo z h
  unfold qnI at h
  rcases qdk h with h | ⟨_, _, _, h⟩ | ⟨_, _, _, h⟩ | ⟨y, ha, h⟩
  · cases h
  · cases h
  · cases h
  · obtain ⟨h1, h2⟩ := qij (st := ⟨e, H, lo⟩) h
    have ha' : rd e a = .cp y := by rw [jB (by rw [ha]; trivial), ha]
    have he : qy call (.loadC l a) ⟨e, H, lo⟩ = some ⟨false, true, .d y, ⟨e, H, lo⟩⟩ := by
      simp only [qy, qcF, ha', h1, ok]
    rw [he]; exact kz rfl h2
noncomputable def qtT (d : Nat) (a : O) (g k : K) : KF := fun call n e H lo =>
  asP ((jJ a).run e) (g.run call n e H lo) (fun id off => k.run call n ((d, .ptr id off) :: e) H lo) (fun s off => k.run call n ((d, .lp s off) :: e) H lo) (fun x => k.run call n ((d, .cp x) :: e) H lo)
theorem qoY {d : Nat} {a : O} {g k : K} (hg : jf g.run (.nilCheck a) (some d) k) : jf (qtT d a g k) (.nilCheck a) (some d) k := by
  intro call n e H lo z h
  unfold qtT at h
  rcases qdk h with h | ⟨id, off, ha, h⟩ | ⟨s, off, ha, h⟩ | ⟨y, ha, h⟩
  · exact hg h
  · have ha' : rd e a = .ptr id off := (jB (by rw [ha]; trivial)).trans ha
    rw [show qy call (.nilCheck a) ⟨e, H, lo⟩ = some ⟨false, true, .ptr id off, ⟨e, H, lo⟩⟩ by simp only [qy, ya, ha', ok]]
    exact kz rfl h
  · have ha' : rd e a = .lp s off := (jB (by rw [ha]; trivial)).trans ha
    rw [show qy call (.nilCheck a) ⟨e, H, lo⟩ = some ⟨false, true, .lp s off, ⟨e, H, lo⟩⟩ by simp only [qy, ya, ha', ok]]
    exact kz rfl h
  · have ha' : rd e a = .cp y := (jB (by rw [ha]; trivial)).trans ha
    rw [show qy call (.nilCheck a) ⟨e, H, lo⟩ = some ⟨false, true, .cp y, ⟨e, H, lo⟩⟩ by simp only [qy, ya, ha', ok]]
    exact kz rfl h
noncomputable def qts (d : Nat) (a : O) (o : Nat) (l : L) (g k : K) : KF := fun call n e H lo =>
  asP ((jJ a).run e) (g.run call n e H lo) (fun id off => kY (Nat.add off o) fun off => k.run call n ((d, .ptr id off) :: e) H lo) (fun s off => kY (Nat.add off o) fun off => k.run call n ((d, .lp s off) :: e) H lo) (fun _ => g.run call n e H lo)
theorem qd3 {a : Nat} {κ : Nat → R} : kY a κ = κ a := qaV a κ
theorem qo0 {d : Nat} {a : O} {o : Nat} {l : L} {g k : K} (hg : jf g.run (.fieldAddr a o l) (some d) k) : jf (qts d a o l g k) (.fieldAddr a o l) (some d) k := by
  intro call n e H lo z h
  unfold qts at h
  rcases qdk h with h | ⟨id, off, ha, h⟩ | ⟨s, off, ha, h⟩ | ⟨y, ha, h⟩
  · exact hg h
  · rw [qd3] at h
    have ha' : rd e a = .ptr id off := (jB (by rw [ha]; trivial)).trans ha
    have he : qy call (.fieldAddr a o l) ⟨e, H, lo⟩ = some ⟨false, true, .ptr id (off + o), ⟨e, H, lo⟩⟩ := by
      simp only [qy, zL, ha', ok]
    rw [he]; exact kz rfl h
  · rw [qd3] at h
    have ha' : rd e a = .lp s off := (jB (by rw [ha]; trivial)).trans ha
    have he : qy call (.fieldAddr a o l) ⟨e, H, lo⟩ = some ⟨false, true, .lp s (off + o), ⟨e, H, lo⟩⟩ := by
      simp only [qy, zL, ha', ok]
    rw [he]; exact kz rfl h
  · exact hg h
noncomputable def qqb (z : Int) (κ : Nat → R) : R := Int.rec (motive := fun _ => R) κ (fun _ => none) z
theorem qiF {z : Int} {κ : Nat → R} {x : Ex × St} (h : qqb z κ = some x) : ∃ m : Nat, z = .ofNat m ∧ κ m = some x := by
  cases z with
  | ofNat m => exact ⟨m, rfl, h⟩
  | negSucc m => cases h
noncomputable def szD (y : D) : Nat := D.rec (motive_1 := fun _ => Nat) (motive_2 := fun _ => Nat) (fun _ => 1) (fun _ _ => 1) (fun _ => 1) 1 (fun _ _ => 1) (fun cs _ => qbo cs) 1 1 1 1 1 (fun _ _ _ _ => 1) y
theorem qkT (y : D) : szD y = y.cells.length := by
  cases y with
  | agg cs => exact yB cs
  | _ => rfl
noncomputable def asL (v : V) (z nl : R) (κ : List D → R) : R := OL.rec (motive := fun _ => R) z nl κ (vL v)
theorem qiI {v : V} {z nl : R} {κ : List D → R} {x : Ex × St} (h : asL v z nl κ = some x) : z = some x ∨ (v = .d .nil ∧ nl = some x) ∨ ∃ xs, v = .d (.sl xs) ∧ κ xs = some x := by
  unfold asL at h
  cases hv : vL v with
  | no => rw [hv] at h; exact .inl h
  | nil => rw [hv] at h; exact .inr (.inl ⟨qtp hv, h⟩)
  | sl xs => rw [hv] at h; exact .inr (.inr ⟨xs, quc hv, h⟩)
noncomputable def asT (v : V) (z : R) (κ : List Nat → R) : R := OT.rec (motive := fun _ => R) z κ (vT v)
theorem qlP {v : V} {z : R} {κ : List Nat → R} {x : Ex × St} (h : asT v z κ = some x) : z = some x ∨ ∃ t, v = .d (.s t) ∧ κ t = some x := by
  unfold asT at h
  cases hv : vT v with
  | no => rw [hv] at h; exact .inl h
  | s t => rw [hv] at h; exact .inr ⟨t, quv hv, h⟩
noncomputable def qtw (d : Nat) (x i : O) (size : Nat) (g k : K) : KF := fun call n e H lo =>
  asL ((jJ x).run e) (g.run call n e H lo) none fun xs => asN ((jJ i).run e) none fun _ z => qqb z fun m => orN (fnth xs m) fun y => Bool.rec (motive := fun _ => R) none (k.run call n ((d, .cp y) :: e) H lo) (qvG (szD y) size)
theorem qpP {d : Nat} {x i : O} {size : Nat} {g k : K} (hg : jf g.run (.indexAddr x i size none) (some d) k) : jf (qtw d x i size g k) (.indexAddr x i size none) (some d) k := by
  intro call n e H lo z h
  unfold qtw at h
  rcases qiI h with h | ⟨_, h⟩ | ⟨xs, hx, h⟩
  · exact hg h
  · cases h
  rcases qdQ h with h | ⟨kk, w, hi, h⟩
  · cases h
  obtain ⟨m, rfl, h⟩ := qiF h
  obtain ⟨y, hy, h⟩ := jn h
  rw [qaH] at hy
  rw [qkT] at h
  cases hb : qvG y.cells.length size with
  | false => rw [hb] at h; cases h
  | true =>
    rw [hb] at h
    have hx' : rd e x = .d (.sl xs) := (jB (by rw [hx]; trivial)).trans hx
    have hl : leI 0 (Int.ofNat m) = true := by show Nat.ble 0 m = true; exact Nat.ble_eq_true_of_le (Nat.zero_le m)
    have ht : (Int.ofNat m).toNat = m := rfl
    have he : qy call (.indexAddr x i size none) ⟨e, H, lo⟩ = some ⟨false, true, .cp y, ⟨e, H, lo⟩⟩ := by
      simp only [qy, zI, yU, hx', qjV hi, hl, ht, hy, hb, cond_true, ok]
    rw [he]; exact kz rfl h
noncomputable def qtH (d : Nat) (x i : O) (k : K) : KF := fun call n e H lo =>
  asT ((jJ x).run e) none fun t => asN ((jJ i).run e) none fun _ z => qqb z fun m => orN (fnth t m) fun y => k.run call n ((d, .d (.i .u8 (.ofNat y))) :: e) H lo
theorem qo7 {d : Nat} {x i : O} {k : K} : jf (qtH d x i k) (.index x i) (some d) k := by
  intro call n e H lo z h
  unfold qtH at h
  rcases qlP h with h | ⟨t, hx, h⟩
  · cases h
  rcases qdQ h with h | ⟨kk, w, hi, h⟩
  · cases h
  obtain ⟨m, rfl, h⟩ := qiF h
  obtain ⟨y, hy, h⟩ := jn h
  rw [qaH] at hy
  have hx' : rd e x = .d (.s t) := (jB (by rw [hx]; trivial)).trans hx
  have hl : leI 0 (Int.ofNat m) = true := by show Nat.ble 0 m = true; exact Nat.ble_eq_true_of_le (Nat.zero_le m)
  have ht : (Int.ofNat m).toNat = m := rfl
  have he : qy call (.index x i) ⟨e, H, lo⟩ = some ⟨false, true, .d (.i .u8 (.ofNat y)), ⟨e, H, lo⟩⟩ := by
    simp only [qy, qdC, hx', qjV hi, hl, ht, hy, cond_true, ok]; rfl
  rw [he]; exact kz rfl h
noncomputable def asU (v : V) (κ : List V → R) : R := OU.rec (motive := fun _ => R) none κ (vU v)
theorem qqP {v : V} {κ : List V → R} {x : Ex × St} (h : asU v κ = some x) : ∃ vs, v = .tup vs ∧ κ vs = some x := by
  unfold asU at h
  cases hv : vU v with
  | no => rw [hv] at h; cases h
  | t vs => rw [hv] at h; exact ⟨vs, qvj hv, h⟩
noncomputable def qtW (d m i : Nat) (k : K) : KF := fun call n e H lo =>
  asU (fget m e) fun vs => orN (fnth vs i) fun v => qoc v fun v => k.run call n ((d, v) :: e) H lo
theorem qpu {d m i : Nat} {k : K} : jf (qtW d m i k) (.extract (.t m) i) (some d) k := by
  intro call n e H lo z h
  unfold qtW at h
  obtain ⟨vs, hv, h⟩ := qqP h
  obtain ⟨v, hn, h⟩ := jn h
  obtain ⟨hb, h⟩ := qgf h
  rw [qaO] at hv
  rw [qaH] at hn
  have he : qy call (.extract (.t m) i) ⟨e, H, lo⟩ = some ⟨false, true, copy v, ⟨e, H, lo⟩⟩ := by
    simp only [qy, qae, hv, hn, ok]
  rw [he]; exact kz hb h
noncomputable def qqU (d : Nat) (x : O) (k : K) : KF := fun call n e H lo =>
  asT ((jJ x).run e) none fun t => kY (qbo t) fun m => k.run call n ((d, .d (.i .i64 (.ofNat m))) :: e) H lo
theorem qnt {d : Nat} {x : O} {k : K} : jf (qqU d x k) (.bi .lenS [x]) (some d) k := by
  intro call n e H lo z h
  unfold qqU at h
  rcases qlP h with h | ⟨t, hx, h⟩
  · cases h
  rw [qd3, yB] at h
  have hx' : rd e x = .d (.s t) := (jB (by rw [hx]; trivial)).trans hx
  have he : qy call (.bi .lenS [x]) ⟨e, H, lo⟩ = some ⟨false, true, .d (.i .i64 (.ofNat t.length)), ⟨e, H, lo⟩⟩ := by
    simp only [qy, eBi, qgJ, hx', ok]; rfl
  rw [he]; exact kz rfl h
noncomputable def qqm (d : Nat) (x : O) (g k : K) : KF := fun call n e H lo =>
  asL ((jJ x).run e) (g.run call n e H lo) (k.run call n ((d, .d (.i .i64 (.ofNat 0))) :: e) H lo) fun xs => kY (qbo xs) fun m => k.run call n ((d, .d (.i .i64 (.ofNat m))) :: e) H lo
theorem qm9 {d : Nat} {x : O} {g k : K} (hg : jf g.run (.bi .lenL [x]) (some d) k) : jf (qqm d x g k) (.bi .lenL [x]) (some d) k := by
  intro call n e H lo z h
  unfold qqm at h
  rcases qiI h with h | ⟨hx, h⟩ | ⟨xs, hx, h⟩
  · exact hg h
  · have hx' : rd e x = .d .nil := (jB (by rw [hx]; trivial)).trans hx
    have he : qy call (.bi .lenL [x]) ⟨e, H, lo⟩ = some ⟨false, true, .d (.i .i64 (.ofNat 0)), ⟨e, H, lo⟩⟩ := by
      simp only [qy, eBi, qcI, qsC, hx', ok]; rfl
    rw [he]; exact kz rfl h
  · rw [qd3, yB] at h
    have hx' : rd e x = .d (.sl xs) := (jB (by rw [hx]; trivial)).trans hx
    have he : qy call (.bi .lenL [x]) ⟨e, H, lo⟩ = some ⟨false, true, .d (.i .i64 (.ofNat xs.length)), ⟨e, H, lo⟩⟩ := by
      simp only [qy, eBi, qcI, qsC, hx', ok]; rfl
    rw [he]; exact kz rfl h
noncomputable def asB (v : V) (a b : R) : R := OB.rec (motive := fun _ => R) none b a (vB v)
theorem qmL {v : V} {a b : R} {x : Ex × St} (h : asB v a b = some x) : (v = .d (.b true) ∧ a = some x) ∨ (v = .d (.b false) ∧ b = some x) := by
  unfold asB at h
  cases hv : vB v with
  | no => rw [hv] at h; cases h
  | t => rw [hv] at h; exact .inl ⟨qvs hv, h⟩
  | f => rw [hv] at h; exact .inr ⟨qvi hv, h⟩
noncomputable def qs7 (d : Nat) (x : O) (k : K) : KF := fun call n e H lo =>
  asB ((jJ x).run e) (k.run call n ((d, .d (.b false)) :: e) H lo) (k.run call n ((d, .d (.b true)) :: e) H lo)
theorem qoT {d : Nat} {x : O} {k : K} : jf (qs7 d x k) (.un .not x) (some d) k := by
  intro call n e H lo z h
  unfold qs7 at h
  rcases qmL h with ⟨hx, h⟩ | ⟨hx, h⟩
  · have hx' : rd e x = .d (.b true) := (jB (by rw [hx]; trivial)).trans hx
    rw [show qy call (.un .not x) ⟨e, H, lo⟩ = some ⟨false, true, .d (.b false), ⟨e, H, lo⟩⟩ by simp only [qy, eUn, hx', unD, ok]; rfl]
    exact kz rfl h
  · have hx' : rd e x = .d (.b false) := (jB (by rw [hx]; trivial)).trans hx
    rw [show qy call (.un .not x) ⟨e, H, lo⟩ = some ⟨false, true, .d (.b true), ⟨e, H, lo⟩⟩ by simp only [qy, eUn, hx', unD, ok]; rfl]
    exact kz rfl h
noncomputable def qm2 (v : V) : Bool := V.rec (motive_1 := fun _ => Bool) (motive_2 := fun _ => Bool) (fun x => D.rec (motive_1 := fun _ => Bool) (motive_2 := fun _ => Bool) (fun _ => true) (fun _ _ => true) (fun _ => true) true (fun _ _ => true) (fun _ _ => false) true true true true true (fun _ _ _ _ => true) x) (fun _ => true) (fun _ => true) (fun _ _ => true) (fun _ _ => false) (fun _ _ => false) (fun _ => false) (fun _ _ _ _ => true) (fun _ _ _ => true) (fun _ => true) (fun _ _ _ _ _ => false) (fun _ _ _ => false) (fun _ _ => false) (fun _ _ => false) false false (fun _ _ _ _ => false) v
theorem qov {v : V} (h : qm2 v = true) : v.cells = [v] ∧ V.ones [v] = true := by
  cases v with
  | d x => cases x <;> first | exact ⟨rfl, rfl⟩ | cases h
  | _ => first | exact ⟨rfl, rfl⟩ | cases h
noncomputable def qnr (v : V) (cs : List V) : Nat → (List V → R) → R :=
  List.rec (motive := fun _ => Nat → (List V → R) → R) (fun _ _ => none) (fun c t ih off κ => Nat.rec (motive := fun _ => R) (κ (v :: t)) (fun m _ => ih m fun t' => κ (c :: t')) off) cs
theorem qhX {v : V} : ∀ {cs : List V} {off : Nat} {κ : List V → R} {x : Ex × St}, qnr v cs off κ = some x → ∃ cs', za cs off [v] = some cs' ∧ κ cs' = some x
  | [], off, κ, x, h => by cases h
  | c :: t, 0, κ, x, h => ⟨v :: t, by simp [za], h⟩
  | c :: t, m + 1, κ, x, h => by
    have h : qnr v t m (fun t' => κ (c :: t')) = some x := h
    obtain ⟨cs', h1, h2⟩ := qhX h
    refine ⟨c :: cs', ?_, h2⟩
    simp only [za, qvP, qvQ] at h1 ⊢
    split at h1
    · rename_i hl
      cases h1
      rw [if_pos (by omega)]
      simp [Nat.add_right_comm]
    · cases h1
noncomputable def qlF (o : Obj) (H : List Obj) : Nat → (List Obj → R) → R :=
  List.rec (motive := fun _ => Nat → (List Obj → R) → R) (fun _ _ => none) (fun c t ih off κ => Nat.rec (motive := fun _ => R) (κ (o :: t)) (fun m _ => ih m fun t' => κ (c :: t')) off) H
theorem qf8 {o : Obj} : ∀ {H : List Obj} {id : Nat} {κ : List Obj → R} {x : Ex × St}, qlF o H id κ = some x → κ (k9 H id o) = some x
  | [], off, κ, x, h => by cases h
  | c :: t, 0, κ, x, h => h
  | c :: t, m + 1, κ, x, h => by
    have h : qlF o t m (fun t' => κ (c :: t')) = some x := h
    exact qf8 (H := t) (id := m) (κ := fun t' => κ (c :: t')) h
noncomputable def qnN (a b : Nat) (κ : Nat → R) : R := Bool.rec (motive := fun _ => R) (κ b) (κ a) (Nat.ble a b)
theorem qkX (a b : Nat) (κ : Nat → R) : qnN a b κ = κ (min a b) := by
  unfold qnN
  cases h : Nat.ble a b with
  | true => rw [Nat.min_eq_left (Nat.le_of_ble_eq_true h)]
  | false =>
    have : ¬ a ≤ b := fun hc => by rw [Nat.ble_eq_true_of_le hc] at h; cases h
    rw [Nat.min_eq_right (by omega)]
noncomputable def quZ (sl : Option Nat) (a x : O) (g k : K) : KF :=
  Option.rec (motive := fun _ => KF)
    (fun call n e H lo => asP ((jJ a).run e) (g.run call n e H lo) (fun id off => (rdC x).run e fun v => Bool.rec (motive := fun _ => R) (g.run call n e H lo) (orN (qhZ (fnth H id)) fun cs => qnr v cs off fun cs => qlF (.cells cs) H id fun H => qnN lo id fun lo => k.run call n ((spO x).run e) H lo) (qm2 v)) (fun _ _ => none) (fun _ => none))
    (fun s0 call n e H lo => asP ((jJ a).run e) (g.run call n e H lo) (fun _ _ => none) (fun s off => (rdC x).run e fun v => Bool.rec (motive := fun _ => R) (g.run call n e H lo) (Bool.rec (motive := fun _ => R) none (orN (qmx (fget s ((spO x).run e))) fun cs => qnr v cs off fun cs => k.run call n ((s, .box cs) :: (spO x).run e) H lo) (qvG s0 s)) (qm2 v)) (fun _ => none)) sl
theorem qoR {sl : Option Nat} {a x : O} {g k : K} (hg : jf g.run (.store sl ⟨1, false⟩ a x) none k) : jf (quZ sl a x g k) (.store sl ⟨1, false⟩ a x) none k := by
  intro call n e H lo z h
  cases sl with
  | none =>
    have h : (asP ((jJ a).run e) (g.run call n e H lo) (fun id off => (rdC x).run e fun v => Bool.rec (motive := fun _ => R) (g.run call n e H lo) (orN (qhZ (fnth H id)) fun cs => qnr v cs off fun cs => qlF (.cells cs) H id fun H => qnN lo id fun lo => k.run call n ((spO x).run e) H lo) (qm2 v)) (fun _ _ => none) (fun _ => none)) = some z := h
    rcases qdk h with h | ⟨id, off, ha, h⟩ | ⟨_, _, _, h⟩ | ⟨y, ha, h⟩
    · exact hg h
    · rw [qfo] at h
      cases ho : qm2 (rd e x) with
      | false => rw [ho] at h; exact hg h
      | true =>
        rw [ho] at h
        obtain ⟨h1, h2⟩ := qov ho
        obtain ⟨cs, hc, h⟩ := jn (o := qhZ (fnth H id)) h
        obtain ⟨cs', hs, h⟩ := qhX h
        have h := qf8 h
        rw [qkX, qhr] at h
        have hc := qh5 hc
        rw [qaH] at hc
        have ha' : rd e a = .ptr id off := (jB (by rw [ha]; trivial)).trans ha
        have he : qy call (.store none ⟨1, false⟩ a x) ⟨e, H, lo⟩ = some ⟨false, false, .undef, ⟨spent x e, k9 H id (.cells cs'), min lo id⟩⟩ := by
          simp only [qy, qbS, ha', zf, qbj, hc, h1, h2, hs, qvN, cond_false, okH, qvP, qvQ, qvF, decide_true, qvL, if_true]
        rw [he]
        exact ⟨_, rfl, .inl ⟨rfl, _, rfl, h⟩⟩
    · cases h
    · cases h
  | some s0 =>
    have h : (asP ((jJ a).run e) (g.run call n e H lo) (fun _ _ => none) (fun s off => (rdC x).run e fun v => Bool.rec (motive := fun _ => R) (g.run call n e H lo) (Bool.rec (motive := fun _ => R) none (orN (qmx (fget s ((spO x).run e))) fun cs => qnr v cs off fun cs => k.run call n ((s, .box cs) :: (spO x).run e) H lo) (qvG s0 s)) (qm2 v)) (fun _ => none)) = some z := h
    rcases qdk h with h | ⟨_, _, _, h⟩ | ⟨s, off, ha, h⟩ | ⟨_, _, h⟩
    · exact hg h
    · cases h
    · rw [qfo] at h
      cases ho : qm2 (rd e x) with
      | false => rw [ho] at h; exact hg h
      | true =>
        rw [ho] at h
        obtain ⟨h1, h2⟩ := qov ho
        have h : Bool.rec (motive := fun _ => R) none (orN (qmx (fget s ((spO x).run e))) fun cs => qnr (rd e x) cs off fun cs => k.run call n ((s, .box cs) :: (spO x).run e) H lo) (qvG s0 s) = some z := h
        cases hb : qvG s0 s with
        | false => rw [hb] at h; cases h
        | true =>
          rw [hb] at h
          obtain ⟨cs, hc, h⟩ := jn (o := qmx (fget s ((spO x).run e))) h
          obtain ⟨cs', hs, h⟩ := qhX h
          have hc := qjZ hc
          rw [qaO, qhr] at hc
          rw [qhr] at h
          have ha' : rd e a = .lp s off := (jB (by rw [ha]; trivial)).trans ha
          have he : qy call (.store (some s0) ⟨1, false⟩ a x) ⟨e, H, lo⟩ = some ⟨false, true, .undef, ⟨(s, .box cs') :: spent x e, H, lo⟩⟩ := by
            simp only [qy, qbS, ha', zf, qbj, hb, hc, h1, h2, hs, qvN, cond_false, ok, qvP, qvQ, qvF, decide_true, qvL, if_true]
          rw [he]
          exact ⟨_, rfl, .inl ⟨rfl, _, rfl, h⟩⟩
    · cases h
noncomputable def qql {α : Type} (o : α) (l : List α) : (List α → R) → R := List.rec (motive := fun _ => (List α → R) → R) (fun κ => κ [o]) (fun x _ ih κ => ih fun r => κ (x :: r)) l
theorem qmv {α : Type} (o : α) (l : List α) (κ : List α → R) : qql o l κ = κ (l ++ [o]) := by
  induction l generalizing κ with
  | nil => rfl
  | cons x l ih => exact ih _
noncomputable def qt1 (d : Nat) (zero : List D) (k : K) : KF := fun call n e H lo =>
  yW (fun v κ => κ v) (zero.map V.d) fun cs => kY (qbo H) fun m => qql (.cells cs) H fun H => k.run call n ((d, .ptr m 0) :: e) H lo
theorem qoK {d : Nat} {zero : List D} {k : K} : jf (qt1 d zero k) (.alloc false zero) (some d) k := by
  intro call n e H lo z h
  unfold qt1 at h
  rw [jx (fun v κ => rfl), qd3, yB, qmv] at h
  exact kz (same := false) rfl h
noncomputable def qt4 (d : Nat) (k : K) : KF := fun call n e H lo => kY (qbo H) fun m => qql (.map []) H fun H => k.run call n ((d, .map m) :: e) H lo
theorem qpH {d : Nat} {k : K} : jf (qt4 d k) .mkMap (some d) k := by
  intro call n e H lo z h
  unfold qt4 at h
  rw [qd3, yB, qmv] at h
  exact kz (same := false) rfl h
noncomputable def qq6 (a : List Nat) : List Nat → Bool := List.rec (motive := fun _ => List Nat → Bool) (fun b => List.rec (motive := fun _ => Bool) true (fun _ _ _ => false) b) (fun x _ ih b => List.rec (motive := fun _ => Bool) false (fun y t _ => Bool.rec (motive := fun _ => Bool) false (ih t) (qvG x y)) b) a
theorem qn9 : ∀ a b : List Nat, qq6 a b = eqT a b
  | [], [] => rfl
  | [], _ :: _ => rfl
  | _ :: _, [] => rfl
  | x :: a, y :: b => by
    show Bool.rec (motive := fun _ => Bool) false (qq6 a b) (qvG x y) = (qvG x y && eqT a b)
    rw [qn9 a b]
    cases qvG x y <;> rfl
noncomputable def qmC (x w : D) : Option Bool := D.rec (motive_1 := fun _ => Option Bool) (motive_2 := fun _ => Option Bool) (fun y => D.same (.b y) w) (fun k n => D.same (.i k n) w) (fun t => OT.rec (motive := fun _ => Option Bool) (D.same (.s t) w) (fun u => some (qq6 t u)) (vT (.d w))) none (fun _ _ => none) (fun _ _ => none) none none none none none (fun _ _ _ _ => none) x
theorem qlQ (x w : D) : qmC x w = D.same x w := by
  cases x with
  | s t =>
    show OT.rec (motive := fun _ => Option Bool) (D.same (.s t) w) (fun u => some (qq6 t u)) (vT (.d w)) = _
    cases h : vT (.d w) with
    | no => rfl
    | s u =>
      have := quv h
      cases this
      show some (qq6 t u) = some (eqT t u)
      rw [qn9]
  | b z => rfl
  | i k n => rfl
  | _ => cases w <;> rfl
noncomputable def qpY (k : D) (es : List (D × V)) : Option (Option V) := List.rec (motive := fun _ => Option (Option V)) (some none) (fun p _ ih => Option.rec (motive := fun _ => Option (Option V)) none (fun b => Bool.rec (motive := fun _ => Option (Option V)) ih (some (some p.2)) b) (qmC k p.1)) es
theorem qqQ (k : D) (es : List (D × V)) : qpY k es = qdr k es := by
  induction es with
  | nil => rfl
  | cons p es ih =>
    obtain ⟨k', v⟩ := p
    show Option.rec (motive := fun _ => Option (Option V)) none (fun b => Bool.rec (motive := fun _ => Option (Option V)) (qpY k es) (some (some v)) b) (qmC k k') = qdr k ((k', v) :: es)
    rw [qlQ, ih]
    simp only [qdr]
    cases D.same k k' with
    | none => rfl
    | some b => cases b <;> rfl
noncomputable def qqI (k : D) (v : V) (es : List (D × V)) : (List (D × V) → R) → R := List.rec (motive := fun _ => (List (D × V) → R) → R) (fun κ => κ [(k, v)]) (fun p t ih κ => Option.rec (motive := fun _ => R) none (fun b => Bool.rec (motive := fun _ => R) (ih fun r => κ (p :: r)) (κ ((p.1, v) :: t)) b) (qmC k p.1)) es
theorem qiE {k : D} {v : V} : ∀ {es : List (D × V)} {κ : List (D × V) → R} {x : Ex × St}, qqI k v es κ = some x → ∃ es', qeU k v es = some es' ∧ κ es' = some x
  | [], κ, x, h => ⟨_, rfl, h⟩
  | (k', w) :: es, κ, x, h => by
    have h : Option.rec (motive := fun _ => R) none (fun b => Bool.rec (motive := fun _ => R) (qqI k v es fun r => κ ((k', w) :: r)) (κ ((k', v) :: es)) b) (qmC k k') = some x := h
    rw [qlQ] at h
    cases hs : D.same k k' with
    | none => rw [hs] at h; cases h
    | some b =>
      rw [hs] at h
      cases b with
      | true => exact ⟨_, by simp only [qeU, hs], h⟩
      | false =>
        obtain ⟨es', h1, h2⟩ := qiE (es := es) h
        exact ⟨_, by simp only [qeU, hs, h1], h2⟩
noncomputable def vD (v : V) : Option D := V.rec (motive_1 := fun _ => Option D) (motive_2 := fun _ => Option D) (fun x => some x) (fun _ => none) (fun _ => none) (fun _ _ => none) (fun _ _ => none) (fun _ _ => none) (fun _ => none) (fun _ _ _ _ => none) (fun _ _ _ => none) (fun _ => none) (fun _ _ _ _ _ => none) (fun _ _ _ => none) (fun _ _ => none) (fun _ _ => none) none none (fun _ _ _ _ => none) v
theorem qlb {v : V} {x : D} (h : vD v = some x) : v = .d x := by
  cases v with
  | d y => have h : some y = some x := h; cases h; rfl
  | _ => cases h
noncomputable def qtg (v : V) : Option Nat := V.rec (motive_1 := fun _ => Option Nat) (motive_2 := fun _ => Option Nat) (fun _ => none) (fun _ => none) (fun _ => none) (fun _ _ => none) (fun _ _ => none) (fun _ _ => none) (fun _ => none) (fun _ _ _ _ => none) (fun _ _ _ => none) (fun a => some a) (fun _ _ _ _ _ => none) (fun _ _ _ => none) (fun _ _ => none) (fun _ _ => none) none none (fun _ _ _ _ => none) v
theorem qj3 {v : V} {m : Nat} (h : qtg v = some m) : v = .map m := by
  cases v with
  | map y => have h : some y = some m := h; cases h; rfl
  | _ => cases h
noncomputable def qtm (o : Option Obj) : Option (List (D × V)) := Option.rec (motive := fun _ => Option (List (D × V))) none (fun ob => Obj.rec (motive := fun _ => Option (List (D × V))) (fun _ => none) (fun es => some es) (fun _ _ => none) none ob) o
theorem qjX {o : Option Obj} {es : List (D × V)} (h : qtm o = some es) : o = some (.map es) := by
  cases o with
  | none => cases h
  | some ob => cases ob with
    | map c => have h : some c = some es := h; cases h; rfl
    | _ => cases h
noncomputable def orZ {α : Type} (o : Option α) (z : R) (κ : α → R) : R := Option.rec (motive := fun _ => R) z κ o
theorem qlC {α : Type} {o : Option α} {z : R} {κ : α → R} {x : Ex × St} (h : orZ o z κ = some x) : z = some x ∨ ∃ a, o = some a ∧ κ a = some x := by
  cases o with
  | none => exact .inl h
  | some a => exact .inr ⟨a, rfl, h⟩
noncomputable def qby (b : Bool) (κ : R) : R := Bool.rec (motive := fun _ => R) none κ b
theorem z5 {b : Bool} {κ : R} {x : Ex × St} (h : qby b κ = some x) : b = true ∧ κ = some x := by
  cases b with
  | false => cases h
  | true => exact ⟨rfl, h⟩
noncomputable def qqh (d : Nat) (kk : Nat) (zero : D) (m q : O) (c : Bool) (g k : K) : KF := fun call n e H lo =>
  orZ (qtg ((jJ m).run e)) (g.run call n e H lo) fun id => orN (vD ((jJ q).run e)) fun key => orN (qtm (fnth H id)) fun es => qby (qav kk key) (orN (qpY key es) fun r =>
    Option.rec (motive := fun _ => R) (Bool.rec (motive := fun _ => R) (k.run call n ((d, .d zero) :: e) H lo) (k.run call n ((d, .tup [.d zero, .d (.b false)]) :: e) H lo) c) (fun v => Bool.rec (motive := fun _ => R) (qoc v fun v => k.run call n ((d, v) :: e) H lo) (qoc v fun v => k.run call n ((d, .tup [v, .d (.b true)]) :: e) H lo) c) r)
theorem qmW {d kk : Nat} {zero : D} {m q : O} {c : Bool} {g k : K} (hg : jf g.run (.lookup kk zero m q c) (some d) k) : jf (qqh d kk zero m q c g k) (.lookup kk zero m q c) (some d) k := by
  intro call n e H lo z h
  unfold qqh at h
  rcases qlC h with h | ⟨id, hm, h⟩
  · exact hg h
  obtain ⟨key, hq, h⟩ := jn h
  obtain ⟨es, hs, h⟩ := jn h
  obtain ⟨hgk, h⟩ := z5 h
  obtain ⟨r, hf, h⟩ := jn h
  have hm := qj3 hm
  have hq := qlb hq
  have hs := qjX hs
  rw [qaH] at hs
  rw [qqQ] at hf
  have hm' : rd e m = .map id := (jB (by rw [hm]; trivial)).trans hm
  have hq' : rd e q = .d key := (jB (by rw [hq]; trivial)).trans hq
  cases r with
  | none =>
    have he : qy call (.lookup kk zero m q c) ⟨e, H, lo⟩ = some ⟨false, true, bif c then .tup [.d zero, .d (.b false)] else .d zero, ⟨e, H, lo⟩⟩ := by
      simp only [qy, qbk, hm', hq', hs, hgk, hf, ok, if_true]
    rw [he]
    cases c <;> exact kz rfl h
  | some v =>
    have he : qy call (.lookup kk zero m q c) ⟨e, H, lo⟩ = some ⟨false, true, bif c then .tup [copy v, .d (.b true)] else copy v, ⟨e, H, lo⟩⟩ := by
      simp only [qy, qbk, hm', hq', hs, hgk, hf, ok, if_true]
    rw [he]
    cases c with
    | false =>
      obtain ⟨hb, h⟩ := qgf (v := v) h
      exact kz hb h
    | true =>
      obtain ⟨hb, h⟩ := qgf (v := v) h
      exact kz rfl h
noncomputable def okF (v : V) : Bool := V.rec (motive_1 := fun _ => Bool) (motive_2 := fun _ => Bool) (fun _ => true) (fun _ => false) (fun _ => true) (fun _ _ => true) (fun _ _ => false) (fun _ _ => false) (fun _ => false) (fun _ _ _ _ => true) (fun _ _ _ => true) (fun _ => true) (fun f a b _ _ => V.ok (.fn f a b)) (fun t x _ => V.ok (.ifc t x)) (fun cs _ => V.ok (.agg cs)) (fun vs _ => V.ok (.tup vs)) true false (fun _ _ _ _ => false) v
theorem qtf (v : V) : okF v = v.ok := by cases v <;> rfl
noncomputable def qtc (kk : Nat) (m q x : O) (k : K) : KF := fun call n e H lo =>
  orN (qtg ((jJ m).run e)) fun id => orN (vD ((jJ q).run e)) fun key => orN (qtm (fnth H id)) fun es => (rdC x).run e fun v => qby (qav kk key) (qby (okF v) (qqI key v es fun es => qlF (.map es) H id fun H => qnN lo id fun lo => k.run call n ((spO x).run e) H lo))
theorem qpf {kk : Nat} {m q x : O} {k : K} : jf (qtc kk m q x k) (.mapUpdate kk m q x) none k := by
  intro call n e H lo z h
  unfold qtc at h
  obtain ⟨id, hm, h⟩ := jn h
  obtain ⟨key, hq, h⟩ := jn h
  obtain ⟨es, hs, h⟩ := jn h
  rw [qfo] at h
  obtain ⟨hgk, h⟩ := z5 h
  obtain ⟨hok, h⟩ := z5 h
  obtain ⟨es', hp, h⟩ := qiE h
  have h := qf8 h
  rw [qkX, qhr] at h
  have hm := qj3 hm
  have hq := qlb hq
  have hs := qjX hs
  rw [qaH] at hs
  rw [qtf] at hok
  have hm' : rd e m = .map id := (jB (by rw [hm]; trivial)).trans hm
  have hq' : rd e q = .d key := (jB (by rw [hq]; trivial)).trans hq
  have he : qy call (.mapUpdate kk m q x) ⟨e, H, lo⟩ = some ⟨false, false, .undef, ⟨spent x e, k9 H id (.map es'), min lo id⟩⟩ := by
    simp only [qy, jT, hm', hq', hs, hgk, hok, hp, okH, if_true, qvL]
  rw [he]
  exact ⟨_, rfl, .inl ⟨rfl, _, rfl, h⟩⟩
noncomputable def hdF (size : Nat) (l : List D) : Bool := List.rec (motive := fun _ => Bool) true (fun x _ _ => qvG (szD x) size) l
theorem qnF (size : Nat) (l : List D) : hdF size l = zj size l := by
  cases l with
  | nil => rfl
  | cons x l => show qvG (szD x) size = qvG x.cells.length size; rw [qkT]
noncomputable def qjA (bytes n : Nat) : Bool := Bool.rec (motive := fun _ => Bool) false (Nat.ble n 140737488355328) (Nat.ble (Nat.mul n bytes) 140737488355328)
theorem qjz (bytes n : Nat) : qjA bytes n = roomy bytes n := by
  show Bool.rec (motive := fun _ => Bool) false (Nat.ble n 140737488355328) (Nat.ble (n * bytes) 140737488355328) = (Nat.ble (n * bytes) 140737488355328 && Nat.ble n 140737488355328)
  cases Nat.ble (n * bytes) 140737488355328 <;> rfl
noncomputable def qqH {α : Type} (ys : List α) (l : List α) : (List α → R) → R := List.rec (motive := fun _ => (List α → R) → R) (fun κ => κ ys) (fun x _ ih κ => ih fun r => κ (x :: r)) l
theorem qn6 {α : Type} (ys l : List α) (κ : List α → R) : qqH ys l κ = κ (l ++ ys) := by
  induction l generalizing κ with
  | nil => rfl
  | cons x l ih => exact ih _
inductive OA where
  | no | nil
  | osl (xs : List D)
  | fsl (xs : List D)
noncomputable def vA (v : V) : OA := V.rec (motive_1 := fun _ => OA) (motive_2 := fun _ => OA) (fun x => D.rec (motive_1 := fun _ => OA) (motive_2 := fun _ => OA) (fun _ => .no) (fun _ _ => .no) (fun _ => .no) .nil (fun _ _ => .no) (fun _ _ => .no) .no .no .no .no .no (fun _ _ _ _ => .no) x) (fun xs => .osl xs) (fun xs => .fsl xs) (fun _ _ => .no) (fun _ _ => .no) (fun _ _ => .no) (fun _ => .no) (fun _ _ _ _ => .no) (fun _ _ _ => .no) (fun _ => .no) (fun _ _ _ _ _ => .no) (fun _ _ _ => .no) (fun _ _ => .no) (fun _ _ => .no) .no .no (fun _ _ _ _ => .no) v
theorem qtR {v : V} (h : vA v = .nil) : v = .d .nil := by
  cases v with
  | d x => cases x with
    | nil => rfl
    | _ => cases h
  | _ => cases h
theorem qtU {v : V} {xs : List D} (h : vA v = .osl xs) : v = .osl xs := by
  cases v with
  | osl ys => have h : OA.osl ys = .osl xs := h; cases h; rfl
  | d x => cases x <;> cases h
  | _ => cases h
theorem qtx {v : V} {xs : List D} (h : vA v = .fsl xs) : v = .fsl xs := by
  cases v with
  | fsl ys => have h : OA.fsl ys = .fsl xs := h; cases h; rfl
  | d x => cases x <;> cases h
  | _ => cases h
noncomputable def qu1 {α : Type} (l : List α) : Bool := List.rec (motive := fun _ => Bool) false (fun _ _ _ => true) l
noncomputable def qtO (d size bytes : Nat) (x y : O) (g k : K) : KF := fun call n e H lo =>
  (rdC x).run e fun a => (rdC y).run e fun b => asL b (g.run call n e H lo) (g.run call n e H lo) fun ys =>
    OA.rec (motive := fun _ => R) (g.run call n e H lo)
      (Bool.rec (motive := fun _ => R) (g.run call n e H lo) (qby (hdF size ys) (qby (qjA bytes (qbo ys)) (k.run call n ((d, .osl ys) :: (spO x).run e) H lo))) (qu1 ys))
      (fun xs => qby (hdF size xs) (qby (hdF size ys) (qby (qjA bytes (Nat.add (qbo xs) (qbo ys))) (qqH ys xs fun zs => k.run call n ((d, .osl zs) :: (spO x).run e) H lo))))
      (fun xs => qby (hdF size xs) (qby (hdF size ys) (qby (qjA bytes (Nat.add (qbo xs) (qbo ys))) (qqH ys xs fun zs => k.run call n ((d, .osl zs) :: (spO x).run e) H lo)))) (vA a)
theorem qph {d size bytes : Nat} {x y : O} {g k : K} (hg : jf g.run (.bi (.append size bytes) [x, y]) (some d) k) : jf (qtO d size bytes x y g k) (.bi (.append size bytes) [x, y]) (some d) k := by
  intro call n e H lo z h
  unfold qtO at h
  rw [qfo, qfo] at h
  rcases qiI h with h | ⟨_, h⟩ | ⟨ys, hy, h⟩
  · exact hg h
  · exact hg h
  have done : ∀ {v : V}, v.isBox = false → yg size bytes (rd e x) (rd e y) = some v → k.run call n ((d, v) :: (spO x).run e) H lo = some z → qka (qy call (.bi (.append size bytes) [x, y]) ⟨e, H, lo⟩) (some d) k call n z := by
    intro v hb hv hk
    have he : qy call (.bi (.append size bytes) [x, y]) ⟨e, H, lo⟩ = some ⟨false, true, v, ⟨spent x e, H, lo⟩⟩ := by
      simp only [qy, eBi, qbH, hv, ok]
    rw [he]
    rw [qhr] at hk
    exact kz hb hk
  cases ha : vA (rd e x) with
  | no => rw [ha] at h; exact hg h
  | nil =>
    rw [ha] at h
    cases ys with
    | nil => exact hg h
    | cons y0 ys =>
      obtain ⟨h1, h⟩ := z5 (κ := qby (qjA bytes (qbo (y0 :: ys))) (k.run call n ((d, .osl (y0 :: ys)) :: (spO x).run e) H lo)) h
      obtain ⟨h2, h⟩ := z5 h
      rw [qnF] at h1
      rw [qjz, yB] at h2
      exact done rfl (by rw [qtR ha, hy]; simp only [yg, h1, h2, qvL, cond_true]) h
  | osl xs =>
    rw [ha] at h
    obtain ⟨h1, h⟩ := z5 (b := hdF size xs) (κ := qby (hdF size ys) (qby (qjA bytes (Nat.add (qbo xs) (qbo ys))) (qqH ys xs fun zs => k.run call n ((d, .osl zs) :: (spO x).run e) H lo))) h
    obtain ⟨h2, h⟩ := z5 h
    obtain ⟨h3, h⟩ := z5 h
    rw [qnF] at h1 h2
    rw [qjz, yB, yB] at h3
    have h3 : roomy bytes (xs.length + ys.length) = true := h3
    rw [qn6] at h
    exact done rfl (by rw [qtU ha, hy]; simp only [yg, h1, h2, h3, qvL, cond_true]) h
  | fsl xs =>
    rw [ha] at h
    obtain ⟨h1, h⟩ := z5 (b := hdF size xs) (κ := qby (hdF size ys) (qby (qjA bytes (Nat.add (qbo xs) (qbo ys))) (qqH ys xs fun zs => k.run call n ((d, .osl zs) :: (spO x).run e) H lo))) h
    obtain ⟨h2, h⟩ := z5 h
    obtain ⟨h3, h⟩ := z5 h
    rw [qnF] at h1 h2
    rw [qjz, yB, yB] at h3
    have h3 : roomy bytes (xs.length + ys.length) = true := h3
    rw [qn6] at h
    exact done rfl (by rw [qtx ha, hy]; simp only [yg, h1, h2, h3, qvL, cond_true]) h
noncomputable def qej (l : List D) : Bool := List.rec (motive := fun _ => Bool) true (fun x _ ih => D.rec (motive_1 := fun _ => Bool) (motive_2 := fun _ => Bool) (fun _ => ih) (fun _ _ => ih) (fun _ => ih) ih (fun _ _ => ih) (fun _ _ => false) ih ih ih ih ih (fun _ _ _ _ => ih) x) l
theorem qq5 (l : List D) : qej l = D.ones l := by
  induction l with
  | nil => rfl
  | cons x l ih =>
    show (D.rec (motive_1 := fun _ => Bool) (motive_2 := fun _ => Bool) (fun _ => qej l) (fun _ _ => qej l) (fun _ => qej l) (qej l) (fun _ _ => qej l) (fun _ _ => false) (qej l) (qej l) (qej l) (qej l) (qej l) (fun _ _ _ _ => qej l) x) = (x.one && D.ones l)
    rw [ih]
    cases x <;> rfl
noncomputable def wfF (x : D) : Bool := D.rec (motive_1 := fun _ => Bool) (motive_2 := fun _ => Bool) (fun _ => true) (fun _ _ => true) (fun _ => true) true (fun _ _ => true) (fun cs _ => qej cs) true true true true true (fun _ _ _ _ => true) x
theorem qtt (x : D) : wfF x = x.wf := by
  cases x with
  | agg cs => exact qq5 cs
  | _ => rfl
noncomputable def qtu (d : Nat) (zero : D) (x : O) (g k : K) : KF := fun call n e H lo =>
  (rdC x).run e fun v => orZ (vD v) (g.run call n e H lo) fun y => qby (qvG (szD y) (szD zero)) (qby (wfF y) (k.run call n ((d, .osl [y]) :: e) H lo))
theorem qpt {d : Nat} {zero : D} {x : O} {g k : K} (hg : jf g.run (.buildSlice zero 1 [(0, x)]) (some d) k) : jf (qtu d zero x g k) (.buildSlice zero 1 [(0, x)]) (some d) k := by
  intro call n e H lo z h
  unfold qtu at h
  rw [qfo] at h
  rcases qlC h with h | ⟨y, hv, h⟩
  · exact hg h
  obtain ⟨h1, h⟩ := z5 h
  obtain ⟨h2, h⟩ := z5 h
  have hv := qlb hv
  rw [qkT, qkT] at h1
  have h1 := qvJ h1
  rw [qtt] at h2
  have he : qy call (.buildSlice zero 1 [(0, x)]) ⟨e, H, lo⟩ = some ⟨false, true, .osl [y], ⟨e, H, lo⟩⟩ := by
    simp [qy, zR, hv, qbL, h1, D.wfs, h2, ok, List.replicate]
  rw [he]; exact kz rfl h
noncomputable def lvF (v : V) : Bool := V.rec (motive_1 := fun _ => Bool) (motive_2 := fun _ => Bool) (fun _ => true) (fun _ => true) (fun _ => true) (fun _ _ => true) (fun _ _ => false) (fun _ _ => false) (fun _ => false) (fun _ _ _ _ => true) (fun _ _ _ => true) (fun _ => true) (fun f a b _ _ => V.ok (.fn f a b)) (fun t x _ => V.ok (.ifc t x)) (fun cs _ => V.ok (.agg cs)) (fun vs _ => V.ok (.tup vs)) true false (fun _ _ _ _ => false) v
theorem qqK (v : V) : lvF v = v.leaves := by cases v <;> rfl
noncomputable def lvs (l : List V) : Bool := List.rec (motive := fun _ => Bool) true (fun v _ ih => Bool.rec (motive := fun _ => Bool) false ih (lvF v)) l
theorem qs8 (l : List V) : lvs l = V.allLeave l := by
  induction l with
  | nil => rfl
  | cons v l ih =>
    show Bool.rec (motive := fun _ => Bool) false (lvs l) (lvF v) = (v.leaves && V.allLeave l)
    rw [ih, qqK]
    cases v.leaves <;> rfl
noncomputable def qtq (dst : Option Nat) (v : V) (k : K) : KF := fun call n e H lo =>
  Option.rec (motive := fun _ => R) (k.run call n e H lo) (fun d => qng v (qg5 (some d) v k call n e H lo) fun v => k.run call n ((d, v) :: e) H lo) dst
theorem qni {dst : Option Nat} {v : V} {same : Bool} {k : K} {call : Call} {n : Nat} {e : Env} {H : List Obj} {lo : Nat} {x : Ex × St} (h : qtq dst v k call n e H lo = some x) : qka (some ⟨false, same, v, ⟨e, H, lo⟩⟩) dst k call n x := by
  cases dst with
  | none => exact ⟨_, rfl, .inl ⟨rfl, _, rfl, h⟩⟩
  | some d =>
    have h : qng v (qg5 (some d) v k call n e H lo) (fun v => k.run call n ((d, v) :: e) H lo) = some x := h
    rcases qmz h with h | ⟨hb, h⟩
    · exact qgd h
    · exact kz hb h
noncomputable def qr0 (dst : Option Nat) (i : Nat) (args : List O) (k : K) : KF := fun call n e H lo =>
  (qtD args).run e fun vs => qby (lvs vs) (orN (call i vs H) fun r => Cr.rec (motive := fun _ => R) (fun pan same v H' lo' => qnN lo lo' fun lo => Bool.rec (motive := fun _ => R) (qtq dst v k call n ((spL args).run e) H' lo) (some (.pan v, ⟨(spL args).run e, H', lo⟩)) pan) r)
theorem qki {dst : Option Nat} {i : Nat} {args : List O} {k : K} : jf (qr0 dst i args k) (.call (.f i) args) dst k := by
  intro call n e H lo z h
  unfold qr0 at h
  rw [qrQ] at h
  obtain ⟨h1, h⟩ := z5 h
  obtain ⟨r, hr, h⟩ := jn h
  rw [qs8] at h1
  obtain ⟨pan, same, v, H', lo'⟩ := r
  have h : (qnN lo lo' fun lo => Bool.rec (motive := fun _ => R) (qtq dst v k call n ((spL args).run e) H' lo) (some (.pan v, ⟨(spL args).run e, H', lo⟩)) pan) = some z := h
  rw [qkX, qtZ] at h
  have he : qy call (.call (.f i) args) ⟨e, H, lo⟩ = some ⟨pan, same, v, ⟨spentAll args e, H', min lo lo'⟩⟩ := by
    simp only [qy, qcH, rd, List.nil_append, List.append_nil, h1, if_true, hr]
  rw [he]
  cases pan with
  | false => exact qni h
  | true =>
    have h : some (Ex.pan v, (⟨spentAll args e, H', min lo lo'⟩ : St)) = some z := h
    cases h
    exact ⟨_, rfl, .inr ⟨rfl, rfl⟩⟩
noncomputable def qls (dst : Option Nat) (op : OpK) (k : K) : K :=
  match dst with
  | some d => match op with
    | .mov x => .mk (qs5 d x k)
    | .bin op kd x y => qtF d op kd x y k
    | .load false sl l a => .mk (qsR d sl l a (gK (some d) (.load false sl l a) k) k)
    | .loadC l a => .mk (qnI d l a k)
    | .nilCheck a => .mk (qtT d a (gK (some d) (.nilCheck a) k) k)
    | .fieldAddr a o l => .mk (qts d a o l (gK (some d) (.fieldAddr a o l) k) k)
    | .indexAddr x i size none => .mk (qtw d x i size (gK (some d) (.indexAddr x i size none) k) k)
    | .index x i => .mk (qtH d x i k)
    | .extract (.t m) i => .mk (qtW d m i k)
    | .bi .lenS [x] => .mk (qqU d x k)
    | .bi .lenL [x] => .mk (qqm d x (gK (some d) (.bi .lenL [x]) k) k)
    | .bi (.append size bytes) [x, y] => .mk (qtO d size bytes x y (gK (some d) (.bi (.append size bytes) [x, y]) k) k)
    | .un .not x => .mk (qs7 d x k)
    | .alloc false zero => .mk (qt1 d zero k)
    | .mkMap => .mk (qt4 d k)
    | .lookup kk zero m q c => .mk (qqh d kk zero m q c (gK (some d) (.lookup kk zero m q c) k) k)
    | .buildSlice zero 1 [(0, x)] => .mk (qtu d zero x (gK (some d) (.buildSlice zero 1 [(0, x)]) k) k)
    | .call (.f i) args => .mk (qr0 (some d) i args k)
    | op => gK (some d) op k
  | none => match op with
    | .store sl ⟨1, false⟩ a x => .mk (quZ sl a x (gK none (.store sl ⟨1, false⟩ a x) k) k)
    | .mapUpdate kk m q x => .mk (qtc kk m q x k)
    | .call (.f i) args => .mk (qr0 none i args k)
    | op => gK none op k
theorem qpe {dst : Option Nat} {op : OpK} {k : K} : jf (qls dst op k).run op dst k := by
  unfold qls
  split
  · split
    · exact qpM
    · exact qpI
    · exact qm7 jh
    · exact ql1
    · exact qoY jh
    · exact qo0 jh
    · exact qpP jh
    · exact qo7
    · exact qpu
    · exact qnt
    · exact qm9 jh
    · exact qph jh
    · exact qoT
    · exact qoK
    · exact qpH
    · exact qmW jh
    · exact qpt jh
    · exact qki
    · exact jh
  · split
    · exact qoR jh
    · exact qpf
    · exact qki
    · exact jh
theorem qm3 {dst : Option Nat} {op : OpK} {k : K} {call : Call} {n : Nat} {e : Env} {H : List Obj} {lo : Nat} {z : Ex × St} (h : (qls dst op k).run call n e H lo = some z) : qka (qy call op ⟨e, H, lo⟩) dst k call n z := qpe h
noncomputable def vG (v : V) : Option (Option Bool) := V.rec (motive_1 := fun _ => Option (Option Bool)) (motive_2 := fun _ => Option (Option Bool)) (fun x => D.rec (motive_1 := fun _ => Option (Option Bool)) (motive_2 := fun _ => Option (Option Bool)) (fun y => some (some y)) (fun _ _ => none) (fun _ => none) none (fun _ _ => none) (fun _ _ => none) none none none none none (fun _ _ _ _ => none) x) (fun _ => none) (fun _ => none) (fun _ _ => none) (fun _ _ => none) (fun _ _ => none) (fun _ => none) (fun _ _ _ _ => none) (fun _ _ _ => none) (fun _ => none) (fun _ _ _ _ _ => none) (fun _ _ _ => none) (fun _ _ => none) (fun vs _ => List.rec (motive := fun _ => Option (Option Bool)) (some none) (fun _ _ _ => none) vs) none none (fun _ _ _ _ => none) v
theorem quz (m : Nat) (w : Bool) (e : Env) : wanted (some (m, w)) e = Option.rec (motive := fun _ => Option Bool) none (fun r => Option.rec (motive := fun _ => Option Bool) (some false) (fun z => some (z == w)) r) (vG (fget m e)) := by
  rw [qaO]
  simp only [wanted]
  cases get m e with
  | d x => cases x <;> rfl
  | tup vs => cases vs <;> rfl
  | _ => rfl
noncomputable def eqB (a b : Bool) : Bool := Bool.rec (motive := fun _ => Bool) (Bool.rec (motive := fun _ => Bool) true false b) b a
theorem qt7 (a b : Bool) : eqB a b = (a == b) := by cases a <;> cases b <;> rfl
noncomputable def qqo (o : Op) (k : K) : K :=
  match o.g with
  | none => qls o.dst o.k k
  | some (m, w) => .mk fun call n e H lo => orN (vG (fget m e)) fun r => Option.rec (motive := fun _ => R) (qg5 o.dst (.tup []) k call n e H lo) (fun z => Bool.rec (motive := fun _ => R) (qg5 o.dst (.tup []) k call n e H lo) ((qls o.dst o.k k).run call n e H lo) (eqB z w)) r
noncomputable def qdJ (l : List Op) (k : K) : K := List.rec (motive := fun _ => K) k (fun o _ ih => qqo o ih) l
theorem qfr {pg : Pg} {call : Call} (hc : qdb call (kK pg)) {n : Nat} {k : K} : ∀ (l : List Op) {e : Env} {H : List Obj} {lo : Nat} {x : Ex × St}, (qdJ l k).run call n e H lo = some x → qqy pg (kj (kK pg) l ⟨e, H, lo⟩) k call n x
  | [], e, H, lo, x, h => .inl ⟨⟨e, H, lo⟩, rfl, h⟩
  | o :: l, e, H, lo, x, h => by
    have h : (qqo o (qdJ l k)).run call n e H lo = some x := h
    have key : wanted o.g e = some true → (qls o.dst o.k (qdJ l k)).run call n e H lo = some x → qqy pg (kj (kK pg) (o :: l) ⟨e, H, lo⟩) k call n x := by
      intro hw h
      obtain ⟨q, hq, hq2⟩ := qm3 h
      have hq' := qe6 hc hq
      simp only [kj, hw, hq']
      rcases hq2 with ⟨hp, st, hst, hrun⟩ | ⟨hp, rfl⟩
      · rw [hp, hst]
        exact qfr hc l hrun
      · rw [hp]
        exact .inr ⟨rfl, by simp⟩
    have skip : wanted o.g e = some false → qg5 o.dst (.tup []) (qdJ l k) call n e H lo = some x → qqy pg (kj (kK pg) (o :: l) ⟨e, H, lo⟩) k call n x := by
      intro hw' h
      obtain ⟨q, hq, hq2⟩ := qgd (same := true) h
      cases hq
      rcases hq2 with ⟨_, st, hst, hrun⟩ | ⟨hp, _⟩
      · simp only [kj, hw']
        rw [hst]
        exact qfr hc l hrun
      · cases hp
    unfold qqo at h
    split at h
    · rename_i hg
      exact key (by rw [hg]; rfl) h
    · rename_i m w hg
      have h : (orN (vG (fget m e)) fun r => Option.rec (motive := fun _ => R) (qg5 o.dst (.tup []) (qdJ l k) call n e H lo) (fun z => Bool.rec (motive := fun _ => R) (qg5 o.dst (.tup []) (qdJ l k) call n e H lo) ((qls o.dst o.k (qdJ l k)).run call n e H lo) (eqB z w)) r) = some x := h
      obtain ⟨r, hr, h⟩ := jn h
      have hw := quz m w e
      rw [hr] at hw
      rw [← hg] at hw
      cases r with
      | none => exact skip hw h
      | some z =>
        have hw : wanted o.g e = some (z == w) := hw
        rw [← qt7] at hw
        have h : Bool.rec (motive := fun _ => R) (qg5 o.dst (.tup []) (qdJ l k) call n e H lo) ((qls o.dst o.k (qdJ l k)).run call n e H lo) (eqB z w) = some x := h
        cases hb : eqB z w with
        | false => rw [hb] at h hw; exact skip hw h
        | true => rw [hb] at h hw; exact key hw h
noncomputable def qdm : K := .mk fun _ _ e H lo => some (.nrm, ⟨e, H, lo⟩)
noncomputable def frest (live : List Nat) (e : Env) (κ : Env → R) : R :=
  List.rec (motive := fun _ => (Env → R) → R) (fun κ => κ []) (fun n _ ih κ => qrt (fget n e) fun v => ih fun r => κ ((n, v) :: r)) live κ
theorem qiG (live : List Nat) (e : Env) (κ : Env → R) : frest live e κ = κ (restrict live e) := by
  induction live generalizing κ with
  | nil => rfl
  | cons n l ih =>
    show qrt (fget n e) (fun v => frest l e fun r => κ ((n, v) :: r)) = _
    rw [qqO, ih, qaO]
    rfl
noncomputable def onX (r : R) (fn : Env → List Obj → Nat → R) (fx : Nat → Env → List Obj → Nat → R) : R :=
  Option.rec (motive := fun _ => R) none (fun p => Prod.rec (motive := fun _ => R) (fun ex st => St.rec (motive := fun _ => R) (fun e H lo => Ex.rec (motive := fun _ => R) (fn e H lo) (fun j => fx j e H lo) (some (.ret, ⟨e, H, lo⟩)) (fun v => some (.pan v, ⟨e, H, lo⟩)) ex) st) p) r
noncomputable def qsL (id : Nat) (live : List Nat) (k : K) (call : Call) (n : Nat) (r : R) : R :=
  onX r (fun e H lo => frest live e fun e => k.run call n e H lo) fun j e H lo => Bool.rec (motive := fun _ => R) (some (.exit j, ⟨e, H, lo⟩)) (frest live e fun e => k.run call n e H lo) (qvG j id)
noncomputable def qon (live : List Nat) (a : K) (call : Call) (n : Nat) : Env → List Obj → Nat → R :=
  Nat.rec (motive := fun _ => Env → List Obj → Nat → R) (fun _ _ _ => none) (fun m ih e H lo => frest live e fun e => onX (a.run call m e H lo) ih fun j e H lo => some (.exit j, ⟨e, H, lo⟩)) n
noncomputable def qgq (c : C) : K → K :=
  C.rec (motive := fun _ => K → K) (fun k => k) (fun l k => qdJ l k) (fun l k => .mk fun call n e H lo => match zg call l ⟨e, H, lo⟩ with
      | some (.nrm, ⟨e, H, lo⟩) => yW (fun p k => qao p.2 fun v => k (p.1, v)) e fun e => qhP H fun H => k.run call n e H lo
      | r => r)
    (fun _ _ da db k => da (db k)) (fun o _ _ da db k => .mk fun call n e H lo => asB ((jJ o).run e) ((da k).run call n e H lo) ((db k).run call n e H lo))
    (fun id live _ da k => .mk fun call n e H lo => qsL id live k call n ((da qdm).run call n e H lo))
    (fun live _ da _ => .mk fun call n e H lo => qon live (da qdm) call n e H lo)
    (fun id _ => .mk fun _ _ e H lo => some (.exit id, ⟨e, H, lo⟩)) (fun _ => .mk fun _ _ e H lo => some (.ret, ⟨e, H, lo⟩)) (fun _ => .mk fun _ _ _ _ _ => none)
    (fun k l f p0 p1 live _ _ da db kk => .mk fun call n e H lo => match frd e f with
      | .fn k' [] [c] => Bool.rec (motive := fun _ => R) none (match qbu c H lo with
        | some m => yW (fun p k => qao p.2 fun v => k (p.1, v)) (y7 live e) fun base => kY m fun m => match rounds (fun st => (da qdm).run call n st.env st.H st.lo) (fun st => (db qdm).run call n st.env st.H st.lo) l c p0 p1 base m H lo with
          | some (.nrm, ⟨e, H, lo⟩) => kk.run call n e H lo
          | r => r
        | none => none) (qvG k' k && c.ok)
      | _ => none) c
theorem qhA {pg : Pg} {r : R} {call : Call} {n : Nat} {x : Ex × St} (h : qqy pg r qdm call n x) : r = some x := by
  rcases h with ⟨s, h1, h2⟩ | ⟨h1, _⟩
  · have h2 : some (Ex.nrm, (⟨s.env, s.H, s.lo⟩ : St)) = some x := h2
    cases h2
    exact h1
  · exact h1
theorem qpD {pg : Pg} {live : List Nat} {a : C} {st : St} : exL pg (.loop live a) st = (match exL pg a { st with env := restrict live st.env } with | some (.nrm, st') => exL pg (.loop live a) st' | r => r) := by rw [yX]; rfl
theorem qiQ {pg : Pg} {live : List Nat} {a : C} {da : K} {call : Call} (ih : ∀ (n : Nat) (e : Env) (H : List Obj) (lo : Nat) (x : Ex × St), da.run call n e H lo = some x → exL pg a ⟨e, H, lo⟩ = some x) :
    ∀ (n : Nat) {e : Env} {H : List Obj} {lo : Nat} {x : Ex × St}, qon live da call n e H lo = some x → exL pg (.loop live a) ⟨e, H, lo⟩ = some x ∧ x.1 ≠ .nrm
  | 0, e, H, lo, x, h => by cases h
  | n + 1, e, H, lo, x, h => by
    have h : (frest live e fun e => onX (da.run call n e H lo) (qon live da call n) fun j e H lo => some (.exit j, ⟨e, H, lo⟩)) = some x := h
    rw [qiG] at h
    rw [qpD]
    cases hq : da.run call n (restrict live e) H lo with
    | none => rw [hq] at h; cases h
    | some y =>
      have hy := ih n _ _ _ _ hq
      obtain ⟨ex, st⟩ := y
      rw [hq] at h
      show (match exL pg a ⟨restrict live e, H, lo⟩ with | some (.nrm, st') => exL pg (.loop live a) st' | r => r) = some x ∧ _
      rw [hy]
      cases ex with
      | nrm => exact qiQ ih n h
      | exit id => cases h; exact ⟨rfl, by simp⟩
      | ret => cases h; exact ⟨rfl, by simp⟩
      | pan v => cases h; exact ⟨rfl, by simp⟩
theorem qah {pg : Pg} {call : Call} (hc : qdb call (kK pg)) : ∀ (c : C) (k : K) (n : Nat) (e : Env) (H : List Obj) (lo : Nat) (x : Ex × St), (qgq c k).run call n e H lo = some x → qqy pg (exL pg c ⟨e, H, lo⟩) k call n x
  | .skip, k, n, e, H, lo, x, h => .inl ⟨⟨e, H, lo⟩, by rw [yX]; rfl, h⟩
  | .ops l, k, n, e, H, lo, x, h => by
    have := qfr hc l h
    rwa [show exL pg (.ops l) ⟨e, H, lo⟩ = kj (kK pg) l ⟨e, H, lo⟩ by rw [yX]; rfl]
  | .opsD l, k, n, e, H, lo, x, h => by
    have h : (match zg call l ⟨e, H, lo⟩ with
      | some (.nrm, ⟨e, H, lo⟩) => yW (fun p k => qao p.2 fun v => k (p.1, v)) e fun e => qhP H fun H => k.run call n e H lo
      | r => r) = some x := h
    rw [show exL pg (.opsD l) ⟨e, H, lo⟩ = zg (kK pg) l ⟨e, H, lo⟩ by rw [yX]; rfl]
    cases hq : zg call l ⟨e, H, lo⟩ with
    | none => rw [hq] at h; cases h
    | some y =>
      rw [qdd hc l hq]
      rw [hq] at h
      obtain ⟨ex, e', H', lo'⟩ := y
      cases ex with
      | nrm =>
        have h : (yW (fun (p : Nat × V) k => qao p.2 fun v => k (p.1, v)) e' fun e => qhP H' fun H => k.run call n e H lo') = some x := h
        rw [jx (fun p k => y4 p.2 fun v => k (p.1, v)), qjY] at h
        exact .inl ⟨_, rfl, h⟩
      | exit id => cases h; exact .inr ⟨rfl, by simp⟩
      | ret => cases h; exact .inr ⟨rfl, by simp⟩
      | pan v => cases h; exact .inr ⟨rfl, by simp⟩
  | .seq a b, k, n, e, H, lo, x, h => by
    have ha := qah hc a (qgq b k) n e H lo x h
    rw [show exL pg (.seq a b) ⟨e, H, lo⟩ = (match exL pg a ⟨e, H, lo⟩ with | some (.nrm, st') => exL pg b st' | r => r) by rw [yX]; rfl]
    rcases ha with ⟨s, h1, h2⟩ | ⟨h1, h2⟩
    · rw [h1]
      exact qah hc b k n s.env s.H s.lo x h2
    · rw [h1]
      obtain ⟨ex, st⟩ := x
      cases ex with
      | nrm => exact absurd rfl h2
      | _ => exact .inr ⟨rfl, h2⟩
  | .cond o a b, k, n, e, H, lo, x, h => by
    have h : asB ((jJ o).run e) ((qgq a k).run call n e H lo) ((qgq b k).run call n e H lo) = some x := h
    rw [show exL pg (.cond o a b) ⟨e, H, lo⟩ = (match rd e o with | .d (.b true) => exL pg a ⟨e, H, lo⟩ | .d (.b false) => exL pg b ⟨e, H, lo⟩ | _ => none) by rw [yX]; rfl]
    rcases qmL h with ⟨hx, h⟩ | ⟨hx, h⟩
    · have hx' : rd e o = .d (.b true) := (jB (by rw [hx]; trivial)).trans hx
      rw [hx']; exact qah hc a k n e H lo x h
    · have hx' : rd e o = .d (.b false) := (jB (by rw [hx]; trivial)).trans hx
      rw [hx']; exact qah hc b k n e H lo x h
  | .block id live a, k, n, e, H, lo, x, h => by
    have h : qsL id live k call n ((qgq a qdm).run call n e H lo) = some x := h
    rw [show exL pg (.block id live a) ⟨e, H, lo⟩ = (match exL pg a ⟨e, H, lo⟩ with
      | some (.nrm, st') => some (.nrm, { st' with env := restrict live st'.env })
      | some (.exit j, st') => bif qvG j id then some (.nrm, { st' with env := restrict live st'.env }) else some (.exit j, st')
      | r => r) by rw [yX]; rfl]
    cases hq : (qgq a qdm).run call n e H lo with
    | none => rw [hq] at h; cases h
    | some y =>
      have hy := qhA (qah hc a qdm n e H lo y hq)
      rw [hq] at h
      rw [hy]
      obtain ⟨ex, e', H', lo'⟩ := y
      cases ex with
      | nrm =>
        have h : (frest live e' fun e => k.run call n e H' lo') = some x := h
        rw [qiG] at h
        exact .inl ⟨_, rfl, h⟩
      | exit j =>
        have h : Bool.rec (motive := fun _ => R) (some (.exit j, ⟨e', H', lo'⟩)) (frest live e' fun e => k.run call n e H' lo') (qvG j id) = some x := h
        cases hb : qvG j id with
        | true =>
          rw [hb] at h
          have h : (frest live e' fun e => k.run call n e H' lo') = some x := h
          rw [qiG] at h
          exact .inl ⟨⟨restrict live e', H', lo'⟩, by simp only [hb, cond_true], h⟩
        | false =>
          rw [hb] at h
          have h : some (Ex.exit j, (⟨e', H', lo'⟩ : St)) = some x := h
          cases h
          exact .inr ⟨by simp only [hb, cond_false], by simp⟩
      | ret => cases h; exact .inr ⟨rfl, by simp⟩
      | pan v => cases h; exact .inr ⟨rfl, by simp⟩
  | .loop live a, k, n, e, H, lo, x, h => by
    have h : qon live (qgq a qdm) call n e H lo = some x := h
    exact .inr (qiQ (fun n e H lo x h => qhA (qah hc a qdm n e H lo x h)) n h)
  | .exit id, k, n, e, H, lo, x, h => by
    have h : some (Ex.exit id, (⟨e, H, lo⟩ : St)) = some x := h
    cases h
    exact .inr ⟨by rw [yX]; rfl, by simp⟩
  | .ret, k, n, e, H, lo, x, h => by
    have h : some (Ex.ret, (⟨e, H, lo⟩ : St)) = some x := h
    cases h
    exact .inr ⟨by rw [yX]; rfl, by simp⟩
  | .stuck, k, n, e, H, lo, x, h => by
    have h : none = some x := h
    cases h
  | .rangeB k l f p0 p1 live a b, kk, n, e, H, lo, x, h => by
    have h : (match frd e f with
      | .fn k' [] [c] => Bool.rec (motive := fun _ => R) none (match qbu c H lo with
        | some m => yW (fun (p : Nat × V) k => qao p.2 fun v => k (p.1, v)) (y7 live e) fun base => kY m fun m => match rounds (fun st => (qgq a qdm).run call n st.env st.H st.lo) (fun st => (qgq b qdm).run call n st.env st.H st.lo) l c p0 p1 base m H lo with
          | some (.nrm, ⟨e, H, lo⟩) => kk.run call n e H lo
          | r => r
        | none => none) (qvG k' k && c.ok)
      | _ => none) = some x := h
    rw [qdc] at h
    rw [show exL pg (.rangeB k l f p0 p1 live a b) ⟨e, H, lo⟩ = (match rd e f with
      | .fn k' [] [c] => bif qvG k' k && c.ok then (match qbu c H lo with
        | some n => rounds (exL pg a) (exL pg b) l c p0 p1 (y7 live e) n H lo
        | none => none) else none
      | _ => none) by rw [yX]; rfl]
    split at h
    · rename_i k' c hf
      (try simp only [hf])
      cases hb : (qvG k' k && c.ok) with
      | false => rw [hb] at h; cases h
      | true =>
        rw [hb] at h
        (try simp only [cond_true, hb])
        split at h
        · rename_i m hm
          (try simp only [hm])
          rw [jx (fun p k => y4 p.2 fun v => k (p.1, v)), qaV] at h
          have le : ∀ y, rounds (fun st => (qgq a qdm).run call n st.env st.H st.lo) (fun st => (qgq b qdm).run call n st.env st.H st.lo) l c p0 p1 (y7 live e) m H lo = some y → rounds (exL pg a) (exL pg b) l c p0 p1 (y7 live e) m H lo = some y := fun y hy =>
            qfw (fun st z hz => qhA (qah hc a qdm n st.env st.H st.lo z hz)) (fun st z hz => qhA (qah hc b qdm n st.env st.H st.lo z hz)) m hy
          cases hq : rounds (fun st => (qgq a qdm).run call n st.env st.H st.lo) (fun st => (qgq b qdm).run call n st.env st.H st.lo) l c p0 p1 (y7 live e) m H lo with
          | none => rw [hq] at h; cases h
          | some y =>
            rw [hq] at h
            rw [le y hq]
            obtain ⟨ex, e', H', lo'⟩ := y
            cases ex with
            | nrm => exact .inl ⟨_, rfl, h⟩
            | exit id => cases h; exact .inr ⟨rfl, by simp⟩
            | ret => cases h; exact .inr ⟨rfl, by simp⟩
            | pan v => cases h; exact .inr ⟨rfl, by simp⟩
        · cases h
    · cases h
noncomputable def qqC (own : Bool) (v : V) (κ : V → Option Cr) : Option Cr := V.rec (motive_1 := fun _ => Option Cr) (motive_2 := fun _ => Option Cr) (fun x => κ (.d x)) (fun xs => Bool.rec (motive := fun _ => Option Cr) (κ (.d (.sl xs))) (κ (.osl xs)) own) (fun xs => κ (.fsl xs)) (fun a b => κ (.ptr a b)) (fun a b => κ (.lp a b)) (fun _ _ => none) (fun x => κ (.cp x)) (fun a b c d => κ (.rs a b c d)) (fun a b c => κ (.row a b c)) (fun a => κ (.map a)) (fun f a b _ _ => κ (.fn f a b)) (fun t x _ => κ (.ifc t x)) (fun cs _ => Bool.rec (motive := fun _ => Option Cr) (qcC (qc4 (cs.map yS)) κ) (κ (.agg cs)) own) (fun vs _ => κ (.tup vs)) (κ .undef) none (fun _ _ _ _ => none) v
theorem qsc (own : Bool) (v : V) (κ : V → Option Cr) : qqC own v κ = (match (match v with | .box _ => none | v => some (bif own then v else copy v)) with | some v => κ v | none => none) := by
  cases v with
  | agg cs => cases own with
    | true => rfl
    | false => exact qcj _ _
  | _ => cases own <;> rfl
inductive KX where
  | mk (f : Env → List Obj → Nat → (List V → Option Cr) → Option Cr)
noncomputable def KX.run (k : KX) : Env → List Obj → Nat → (List V → Option Cr) → Option Cr := KX.rec (motive := fun _ => Env → List Obj → Nat → (List V → Option Cr) → Option Cr) (fun f => f) k
noncomputable def qvc (own : Bool) (r : Rv) (ih : KX) : KX :=
  Rv.rec (motive := fun _ => KX) (fun n => .mk fun e H lo κ => qqC own (fget n e) fun v => ih.run e H lo fun vs => κ (v :: vs))
    (fun n l => .mk fun e H lo κ => match qaI own ⟨e, H, lo⟩ (.cell n l) with | some v => qcC v fun v => ih.run e H lo fun vs => κ (v :: vs) | none => none) r
noncomputable def qpn (own : Bool) (l : List Rv) : KX := List.rec (motive := fun _ => KX) (.mk fun _ _ _ κ => κ []) (fun r _ ih => qvc own r ih) l
theorem qsG (own : Bool) (l : List Rv) (e : Env) (H : List Obj) (lo : Nat) (κ : List V → Option Cr) : (qpn own l).run e H lo κ = (match zm own ⟨e, H, lo⟩ l with | some vs => κ vs | none => none) := by
  induction l generalizing κ with
  | nil => rfl
  | cons r l ih =>
    show (qvc own r (qpn own l)).run e H lo κ = _
    simp only [zm]
    cases r with
    | t n =>
      show qqC own (fget n e) (fun v => (qpn own l).run e H lo fun vs => κ (v :: vs)) = _
      rw [qsc, qaO]
      simp only [ih, qaI]
      cases hv : get n e <;> first | rfl | (simp only []; cases zm own ⟨e, H, lo⟩ l <;> rfl)
    | cell n l' =>
      show (match qaI own ⟨e, H, lo⟩ (.cell n l') with | some v => qcC v fun v => (qpn own l).run e H lo fun vs => κ (v :: vs) | none => none) = _
      cases qaI own ⟨e, H, lo⟩ (.cell n l') with
      | none => rfl
      | some v =>
        simp only [qcj, ih]
        cases zm own ⟨e, H, lo⟩ l <;> rfl
noncomputable def qt6 (v : V) : Nat := V.rec (motive_1 := fun _ => Nat) (motive_2 := fun _ => Nat) (fun _ => 0) (fun _ => 0) (fun _ => 0) (fun a _ => Nat.succ a) (fun _ _ => 0) (fun cs _ => V.ref (.box cs)) (fun _ => 0) (fun a _ _ _ => Nat.succ a) (fun a _ _ => Nat.succ a) (fun a => Nat.succ a) (fun f a b _ _ => V.ref (.fn f a b)) (fun t x _ => V.ref (.ifc t x)) (fun cs _ => V.ref (.agg cs)) (fun vs _ => V.ref (.tup vs)) 0 0 (fun _ _ _ _ => 0) v
theorem qr2 (v : V) : qt6 v = v.ref := by cases v <;> rfl
noncomputable def quS (v : V) : Bool := V.rec (motive_1 := fun _ => Bool) (motive_2 := fun _ => Bool) (fun _ => false) (fun _ => false) (fun _ => false) (fun _ _ => false) (fun _ _ => false) (fun _ _ => false) (fun _ => false) (fun _ _ _ _ => true) (fun _ _ _ => false) (fun _ => false) (fun _ _ _ _ _ => false) (fun _ _ _ => false) (fun _ _ => false) (fun _ _ => false) false false (fun _ _ _ _ => false) v
noncomputable def qkN (H : List Obj) (v : V) (H' : List Obj) (lo : Nat) : Option Cr :=
  Bool.rec (motive := fun _ => Option Cr)
    (Bool.rec (motive := fun _ => Option Cr) none
      (Bool.rec (motive := fun _ => Option Cr) (some ⟨false, false, v, H', lo⟩) (Bool.rec (motive := fun _ => Option Cr) (some ⟨false, false, v, H', lo⟩) (some ⟨false, true, v, H, lo⟩) (Nat.ble (qbo H) lo)) (Nat.ble (qt6 v) (qbo H))) (lvF v))
    (match leave H false v ⟨[], H', lo⟩ with | some ⟨pan, same, v, H, lo⟩ => qcC v fun v => some (Cr.mk pan same v H lo) | none => none) (quS v)
theorem qpE (H : List Obj) (pan : Bool) (v : V) (e e' : Env) (H' : List Obj) (lo : Nat) : leave H pan v ⟨e, H', lo⟩ = leave H pan v ⟨e', H', lo⟩ := rfl
theorem qoQ (H : List Obj) (v : V) (e : Env) (H' : List Obj) (lo : Nat) : qkN H v H' lo = leave H false v ⟨e, H', lo⟩ := by
  unfold qkN
  cases hr : quS v with
  | true =>
    show (match leave H false v ⟨[], H', lo⟩ with | some ⟨pan, same, v, H, lo⟩ => qcC v fun v => some (Cr.mk pan same v H lo) | none => none) = _
    rw [qpE H false v [] e]
    cases leave H false v ⟨e, H', lo⟩ with
    | none => rfl
    | some r => obtain ⟨a, b, c, d, f⟩ := r; exact qcj _ _
  | false =>
    show Bool.rec (motive := fun _ => Option Cr) none (Bool.rec (motive := fun _ => Option Cr) (some ⟨false, false, v, H', lo⟩) (Bool.rec (motive := fun _ => Option Cr) (some ⟨false, false, v, H', lo⟩) (some ⟨false, true, v, H, lo⟩) (Nat.ble (qbo H) lo)) (Nat.ble (qt6 v) (qbo H))) (lvF v) = _
    have hs : settle H.length H' v = v := by cases v <;> first | rfl | cases hr
    unfold leave
    simp only [hs, qqK, qr2, yB]
    cases v.leaves with
    | false => rfl
    | true =>
      cases Nat.ble v.ref H.length with
      | false => rfl
      | true => cases Nat.ble H.length lo <;> rfl
noncomputable def qtV (vs : List V) (κ : V → Option Cr) : Option Cr := List.rec (motive := fun _ => Option Cr) (κ (.tup [])) (fun v t _ => List.rec (motive := fun _ => Option Cr) (κ v) (fun w u _ => κ (.tup (v :: w :: u))) t) vs
theorem qrM (vs : List V) (κ : V → Option Cr) : qtV vs κ = κ (qe2 vs) := by
  cases vs with
  | nil => rfl
  | cons v t => cases t <;> rfl
noncomputable def qqM (fn : Fn) (H : List Obj) (st : St) : Option Cr := St.rec (motive := fun _ => Option Cr) (fun e H' lo => (qpn fn.own fn.res).run e H' lo fun vs => qtV vs fun v => qkN H v H' lo) st
theorem qos (fn : Fn) (H : List Obj) (st : St) : qqM fn H st = yx fn H st := by
  obtain ⟨e, H', lo⟩ := st
  show ((qpn fn.own fn.res).run e H' lo fun vs => qtV vs fun v => qkN H v H' lo) = _
  rw [qsG]
  unfold yx
  cases zm fn.own ⟨e, H', lo⟩ fn.res with
  | none => rfl
  | some vs => simp only [qrM]; exact qoQ H _ e H' lo
noncomputable def qrl (fn : Fn) : K := qgq fn.body qdm
noncomputable def exJ (call : Call) (n : Nat) : C → St → Option (Ex × St) := fun c st => (qgq c qdm).run call n st.env st.H st.lo
noncomputable def qrZ (pg : Pg) (call : Call) (n : Nat) (H : List Obj) (fn : Fn) (r : R) : Option Cr :=
  Option.rec (motive := fun _ => Option Cr) none (fun p => Prod.rec (motive := fun _ => Option Cr) (fun ex st => Ex.rec (motive := fun _ => Option Cr)
    (Option.rec (motive := fun _ => Option Cr) (qqM fn H st) (fun q => deferred pg (exJ call n) fn H q.1 q.2 st) fn.dfr) (fun _ => none) (qqM fn H st) (fun v => leave H true v st) ex) p) r
def isNone {α : Type} : Option α → Bool
  | none => true
  | some _ => false
theorem qpg {α : Type} {o : Option α} (h : isNone o = true) : o = none := by cases o <;> first | rfl | cases h
noncomputable def qrR (vs : List V) : Nat → (Env → Option Cr) → Option Cr := List.rec (motive := fun _ => Nat → (Env → Option Cr) → Option Cr) (fun _ κ => κ []) (fun v _ ih m κ => ih (Nat.succ m) fun r => κ ((m, v) :: r)) vs
theorem qsi (vs : List V) (m : Nat) (κ : Env → Option Cr) : qrR vs m κ = κ (z0 m vs) := by
  induction vs generalizing m κ with
  | nil => rfl
  | cons v vs ih => exact ih _ _
noncomputable def qfj (pg : Pg) (n : Nat) : Call :=
  Nat.rec (motive := fun _ => Call) (fun _ _ _ => none) (fun m ih f vs H => Option.rec (motive := fun _ => Option Cr) (pg.ext f vs H)
    (fun fn => Bool.rec (motive := fun _ => Option Cr) none (Bool.rec (motive := fun _ => Option Cr) none (qrR vs 0 fun e => kY (qbo H) fun hl => qrZ pg ih m H fn ((qrl fn).run ih m e H hl)) (qvG fn.np (qbo vs))) (isNone fn.rcv)) (pg.fn f)) n
theorem qtd {pg : Pg} {call : Call} (hc : qdb call (kK pg)) (n : Nat) : qkp (exJ call n) (exL pg) := fun c st x h => qhA (qah hc c qdm n st.env st.H st.lo x h)
theorem qjg (pg : Pg) : ∀ n, qdb (qfj pg n) (kK pg)
  | 0 => fun i vs H r h => by cases h
  | n + 1 => fun i vs H r h => by
    have h : Option.rec (motive := fun _ => Option Cr) (pg.ext i vs H)
      (fun fn => Bool.rec (motive := fun _ => Option Cr) none (Bool.rec (motive := fun _ => Option Cr) none (qrR vs 0 fun e => kY (qbo H) fun hl => qrZ pg (qfj pg n) n H fn ((qrl fn).run (qfj pg n) n e H hl)) (qvG fn.np (qbo vs))) (isNone fn.rcv)) (pg.fn i) = some r := h
    rw [qli]
    unfold kQ
    cases hf : pg.fn i with
    | none => rw [hf] at h; exact h
    | some fn =>
      rw [hf] at h
      have h : Bool.rec (motive := fun _ => Option Cr) none (Bool.rec (motive := fun _ => Option Cr) none (qrR vs 0 fun e => kY (qbo H) fun hl => qrZ pg (qfj pg n) n H fn ((qrl fn).run (qfj pg n) n e H hl)) (qvG fn.np (qbo vs))) (isNone fn.rcv) = some r := h
      rw [qsi, qaV, yB, yB] at h
      cases hb1 : isNone fn.rcv with
      | false => rw [hb1] at h; cases h
      | true =>
        rw [hb1] at h
        cases hb : qvG fn.np vs.length with
        | false => rw [hb] at h; cases h
        | true =>
          rw [hb] at h
          have h : qrZ pg (qfj pg n) n H fn ((qrl fn).run (qfj pg n) n (z0 0 vs) H H.length) = some r := h
          have hcond : fn.np = vs.length ∧ fn.rcv = none := ⟨qvJ hb, qpg hb1⟩
          simp only [if_pos hcond]
          cases hq : (qrl fn).run (qfj pg n) n (z0 0 vs) H H.length with
          | none => rw [hq] at h; cases h
          | some y =>
            have hy := qhA (qah (qjg pg n) fn.body qdm n _ _ _ _ hq)
            rw [hq] at h
            rw [hy]
            obtain ⟨ex, st⟩ := y
            cases ex with
            | nrm =>
              have h : Option.rec (motive := fun _ => Option Cr) (qqM fn H st) (fun q => deferred pg (exJ (qfj pg n) n) fn H q.1 q.2 st) fn.dfr = some r := h
              show (match fn.dfr with
                | none => yx fn H st
                | some (t, rest) => deferred pg (exL pg) fn H t rest st) = some r
              cases hd : fn.dfr with
              | none => rw [hd, qos] at h; exact h
              | some q =>
                obtain ⟨t, rest⟩ := q
                rw [hd] at h
                exact qe1 (qtd (qjg pg n) n) h
            | exit id => cases h
            | ret =>
              have h : qqM fn H st = some r := h
              rw [qos] at h; exact h
            | pan v => exact h
theorem qpC {pg : Pg} {n f : Nat} {vs : List V} {H : List Obj} {r : Cr} (h : qfj pg n f vs H = some r) : kK pg f vs H = some r := qjg pg n _ _ _ _ h
end W

namespace W
set_option maxRecDepth 100000
def qta (r : Option Cr) : Bool := match r with | some ⟨false, true, .d (.b true), [], _⟩ => true | _ => false
theorem qoD : qta (qfj pg 3000 6 [] []) = true := by decide +kernel
theorem qnA : ∃ lo, kK pg 6 [] [] = some ⟨false, true, .d (.b true), [], lo⟩ := by
  have key : ∀ r : Option Cr, qta r = true → ∃ lo, r = some ⟨false, true, .d (.b true), [], lo⟩ := by
    intro r h
    unfold qta at h
    split at h
    · exact ⟨_, rfl⟩
    · cases h
  obtain ⟨lo, h⟩ := key _ qoD
  exact ⟨lo, qpC h⟩
end W

/-
  Tables that the rows list are what the small semantics reads.
-/
set_option linter.unusedSimpArgs false
set_option linter.unusedVariables false
namespace W
open Go (World Value Addr IntKind Program TypeId FuncId Func DataW MemPlace Lit)
theorem qo2 {W : World} {b i : Nat} {v : Value} (h : W.cell? ⟨b, i, none⟩ = some v) : i < (g0 W).pub b := by
  show i < (match W.heap[b]? with | some (.cells c _ _) => c.size | _ => 0)
  simp only [World.cell?] at h
  split at h
  · rename_i c t f hb
    rw [hb]
    simp only [Option.isSome_none, qvA, if_false] at h
    exact (Array.getElem?_eq_some_iff.1 h).1
  · cases h
theorem qmA {pub : Nat → Nat} {w : World} (k : IntKind) : ∀ zs : List Int, RepDL pub w (zs.map (D.i k)) (zs.map fun z => Value.int k z)
  | [] => .nil
  | z :: zs => .cons _ _ _ _ (.i k z) (qmA k zs)
theorem qj1 {P : Program} {W : World} {name : String} {k : IntKind} {zs : List Int} {g : Nat} {t e : TypeId} {n : Nat}
    (hg : P.globalNamed name = some g) (hty : (P.globals[g]?).map (·.type) = some t) (ht : P.underlying t = some (.array n e)) (he : P.underlying e = some (.int k)) (hce : P.cellsOf e = 1) (hct : P.cellsOf t = n) :
    ∀ {laid : List (String × DataW Unit)} {ps : List MemPlace}, DataW.LaidVars P W laid ps → (name, Go.Lib.tabData k zs) ∈ laid → Go.Lib.TabIs P W name k zs
  | [], _, _, hm => by cases hm
  | (nm, d) :: rest, ps, h, hm => by
    obtain ⟨g', t', cs, fuel, p, q, hg', ht', hvar, hd, hrest, _⟩ := h
    rcases List.mem_cons.1 hm with e | hm
    · cases e
      obtain rfl := Option.some.inj (hg.symm.trans hg')
      obtain rfl := Option.some.inj (hty.symm.trans ht')
      unfold Go.Lib.TabIs
      rw [hvar, ← Go.Lib.cells_of_tab ht he hce hct hd]
    · exact qj1 hg hty ht he hce hct hrest hm
theorem qpJ {M : Maps} {P : Program} {W : World} (h2 : qsQ M (g0 W) W) (h : ∀ n x, look M.gl n = some x → ∃ name k zs, P.globalNamed name = some n ∧ x = .agg (zs.map (D.i k)) ∧ zs ≠ [] ∧ Go.Lib.TabIs P W name k zs) : GlOk M (g0 W) W := by
  refine ⟨?_, h2⟩
  intro n x hn
  obtain ⟨name, k, zs, hg, rfl, hne, ht⟩ := h n x hn
  refine ⟨zs.map fun z => Value.int k z, qmA k zs, fun j v hj => ?_, ?_⟩
  · have hlt : j < zs.length := by
      have := (List.getElem?_eq_some_iff.1 hj).1
      simpa using this
    rw [qvF, ht.cell hg j hlt]
    have : (zs.map fun z => Value.int k z)[j]? = some (.int k (zs.getD j 0)) := by simp [List.getD, hlt]
    rw [this] at hj
    exact hj
  · have hpos : 0 < zs.length := by cases zs with | nil => exact absurd rfl hne | cons => simp
    have := qo2 (ht.cell hg (zs.length - 1) (by omega))
    simp only [List.length_map]
    omega
end W

