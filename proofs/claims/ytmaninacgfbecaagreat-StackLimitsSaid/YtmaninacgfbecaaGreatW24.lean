/-
  StackLimits: part 24 of what the proof rests on (a value semantics for a part of the language, sound against the model; the walks).
-/
import Derived.Lib.Bytealg
import Derived.Laws.Externs
import Derived.Test.YtmaninacgfbecaaGreatW23
open Nat renaming beq → qCy, le_refl → qCC, eq_of_beq_eq_true → qCD
open Bool renaming and_eq_true → qCz, cond_eq_ite → qCA, false_eq_true → qCG
open Option renaming bind_eq_some_iff → qCB, bind_eq_bind → qCE, pure_def → qCF, map_some → qCH
namespace W
theorem qwG : ∀ e ∈ qAa, e.Ok pg := by
  simp only [qAa, List.forall_mem_cons]
  exact ⟨qve, qu6, qvg, qvT, quf, fun _ h => by cases h⟩
theorem qAs : ∀ e ∈ slT, e.Ok pg ∨ e.Ok pg2 := by
  simp only [slT, List.forall_mem_cons]
  exact ⟨.inl qv0, .inl qvP, .inl qvt, .inl qt2, .inl qu5, .inr qwH, .inr qqQ, .inl qlZ, .inr qvE, .inl qsL, .inl ql1, .inl qmF, .inr qqF, .inl qmT, .inr qvw, .inl qtl, .inl qmJ, .inl qnj, .inr qrj, .inl qma, .inr qvS, .inl qtm, .inl qmB, .inl qmH, .inl qqG, .inl qrD, fun _ h => by cases h⟩
end W

/- What stands in for bytealg.IndexByteString does what it does. -/
set_option linter.unusedSimpArgs false
set_option linter.unusedVariables false
namespace W
open Go (World Value Addr IntKind Program TypeId FuncId Func Calls Code Result Oper)
theorem qvd (c : Nat) : ∀ l : List UInt8, ixN (c % 256) (l.map (·.toNat)) = Go.Lib.indexByte l c.toUInt8
  | [] => rfl
  | b :: l => by
    have ih := qvd c l
    have hge := Go.Lib.indexByte_ge l c.toUInt8
    have hb : qCy b.toNat (c % 256) = (b == c.toUInt8) := by
      have hc : c.toUInt8.toNat = c % 256 := by simp [Nat.toUInt8]
      rw [← hc]
      by_cases h : b = c.toUInt8
      · subst h; simp
      · have h2 : ¬ b.toNat = c.toUInt8.toNat := fun e => h (UInt8.toNat_inj.1 e)
        have h3 : qCy b.toNat c.toUInt8.toNat = false := by rw [Bool.eq_false_iff]; intro e; exact h2 (qCD e)
        rw [h3]; symm; simpa using h
    simp only [List.map_cons, ixN, Go.Lib.indexByte, hb]
    cases b == c.toUInt8 with
    | true => rfl
    | false =>
      simp only [cond_false, qCG, if_false]
      rw [ih]
      generalize Go.Lib.indexByte l c.toUInt8 = v at hge ⊢
      cases v with
      | ofNat n => simp
      | negSucc m =>
        have : m = 0 := by omega
        subst this
        rfl
theorem qwK {P : Program} {M : Maps} {K : FuncId} {fn : Func} (hf : P.funcs[K]? = some fn) (hname : (fn.name == "runtime.NumGoroutine") = false) (hb : fn.body.isNone = true) (hn : Go.Extern.findNext fn = none)
    (he : Go.Extern.find fn = some Go.Extern.BytealgIndexByte.indexByte) {g : Gh} {w : World} {vs : List V} {H : List Obj} {r : Cr} (h : ixX vs H = some r) {argv : List Value} (ha : ArgsRep M g w 0 vs argv) (hH : RelH M g w H) :
    qpd P K argv.toArray w (qB M g w r) := by
  unfold ixX at h
  split at h
  · rename_i t c
    cases h
    cases ha with
    | cons h0 ha => cases ha with
      | cons h1 ha => cases ha; cases h0 with
        | s h0 => cases h0 with
          | d _ _ h0 => cases h0 with
            | s _ x hx => cases h1 with
              | s h1 => cases h1 with
                | d _ _ h1 => cases h1 with
                  | i k n =>
                    intro o a K Q hK hQ
                    rw [Go.run_callFunc_extern hf hname hb hn he]
                    have e : (#[Value.string x, .int .u8 (Int.ofNat c)] : Array Value) = [Value.string x, .int .u8 (Int.ofNat c)].toArray := rfl
                    rw [← e, Go.Lib.run_indexByteString]
                    simp only [Result.andThen]
                    rw [Oper.upon_value]
                    refine hK _ _ ⟨rfl, g, hH, Evo.refl g w, .s (.d _ _ ?_)⟩
                    rw [← hx, qvd]
                    exact .i _ _
  · cases h
end W

