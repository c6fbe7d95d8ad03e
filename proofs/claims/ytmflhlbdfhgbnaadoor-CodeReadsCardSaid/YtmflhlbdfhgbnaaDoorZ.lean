/- CodeReads: any bytes are the list that the document reads from them, or are refused: any bytes at all, and what any list is written as, with any of its bytes turned. -/
import Derived.Test.YtmflhlbdfhgbnaaDoorCards
import Derived.Test.YtmflhlbdfhgbnaaDoorTie
import Derived.WalkKit
import Derived.ProofKit
import Derived.OpenShut
import Derived.Deep.DeepHandedRow
import Derived.Deep.DeepWitnessRowRef
import Derived.Lib.LaidTab
import Derived.Lay
import Derived.Test.YtmflhlbdfhgbnaaDoorW6
set_option linter.unusedVariables false
set_option linter.unusedSimpArgs false
namespace Go.Proofs.YtmflhlbdfhgbnaaDoor
open Go.ChangeShapes Go.WideShapes Go.ChangeAt Go.RowKit W
set_option maxRecDepth 100000
theorem own : ownKnob Tryd.prog.godebug = none := by kernel_rfl
theorem qsf {H : Type} : Bulk (Rows.uptoBulk (H := H)) Rows.uptoBulkAll :=
  ⟨fun _ => rfl, fun l => by cases l <;> simp [Rows.uptoBulk], rfl, fun _ _ => rfl, fun _ => rfl, rfl, fun _ _ => rfl⟩
def maps : Maps := { fm := (List.range 81).map fun i => (i, i), tm := (List.range 117).map fun i => (i, i), gl := [(0, glD 0), (2, glD 2), (3, glD 3), (4, glD 4)], bk := [] }
theorem qvk : jb maps Tryd.prog { loc := [], org := [], mv := [], bl := [], ll := [] } false Tryd.f2 = some qd6 := by kernel_rfl
theorem qvt : jb maps Tryd.prog { loc := [5], org := [(5, 5), (37, 5), (41, 5)], mv := [(21, 0, 0), (21, 1, 0), (12, 4, 0), (12, 0, 0), (12, 3, 0)], bl := [(1, [0, 3, 4]), (0, [0, 3]), (3, [48, 49, 50]), (2, [])], ll := [(0, [0, 3, 4]), (2, [48, 49, 50])], cp := [52] } true Tryd.f3 = some qcx := by kernel_rfl
theorem qvx : jb maps Tryd.prog { loc := [], org := [], mv := [(12, 0, 0), (12, 1, 0), (5, 0, 0), (5, 1, 0)], bl := [(1, [48, 49, 50]), (0, [])], ll := [(0, [48, 49, 50])], cp := [52], fz := [(8, 0, 9)] } true Tryd.f4 = some zi := by kernel_rfl
theorem qvz : jb maps Tryd.prog { loc := [2, 7], org := [(2, 2), (17, 2), (32, 2), (35, 2), (7, 7)], mv := [], bl := [(1, [2, 5, 20, 21, 22]), (0, [2, 5])], ll := [(0, [2, 5, 20, 21, 22])], cp := [24] } true Tryd.f5 = some qb4 := by kernel_rfl
theorem qvq : jb maps Tryd.prog { loc := [], org := [], mv := [], bl := [], ll := [] } true Tryd.f6 = some qdB := by kernel_rfl
theorem qvo : jb maps Tryd.prog { loc := [], org := [], mv := [], bl := [], ll := [] } true Tryd.f7 = some qdv := by kernel_rfl
theorem qvw : jb maps Tryd.prog { loc := [], org := [], mv := [], bl := [(0, [])], ll := [] } true Tryd.f8 = some kM := by kernel_rfl
theorem qvu : jb maps Tryd.prog { loc := [6], org := [(6, 6), (21, 6), (26, 6), (30, 6)], mv := [(9, 5, 0), (9, 0, 0), (9, 4, 0), (7, 6, 0), (7, 0, 0), (7, 5, 0), (1, 4, 0)], bl := [(1, [4, 11, 12, 13]), (0, [4])], ll := [(0, [4, 11, 12, 13])] } false Tryd.f9 = some qfV := by kernel_rfl
theorem qu5 : jb maps Tryd.prog { loc := [], org := [], mv := [(9, 9, 0), (9, 0, 0), (9, 8, 0), (7, 9, 0), (7, 0, 0), (1, 4, 0), (7, 8, 7)], bl := [(1, [0, 4, 5]), (0, [4])], ll := [(0, [0, 4, 5])] } false Tryd.f10 = some zZ := by kernel_rfl
theorem qux : jb maps Tryd.prog { loc := [8], org := [(8, 8)], mv := [(10, 4, 0), (10, 0, 0), (10, 3, 0)], bl := [(1, [0, 5, 7, 25, 26]), (0, [0, 5, 7])], ll := [(0, [0, 5, 7, 25, 26])] } false Tryd.f11 = some jP := by kernel_rfl
theorem qud : jb maps Tryd.prog { loc := [], org := [], mv := [], bl := [(1, [0, 1, 5]), (0, [])], ll := [(0, [0, 1, 5])] } true Tryd.f12 = some qar := by kernel_rfl
theorem qu6 : jb maps Tryd.prog { loc := [9], org := [(9, 9), (55, 9), (77, 9)], mv := [(20, 4, 0), (20, 0, 0), (20, 3, 0), (18, 3, 1), (15, 2, 0), (15, 0, 0), (15, 1, 0)], bl := [(1, [0, 4, 7, 8]), (0, [0, 7])], ll := [(0, [0, 4, 7, 8])] } false Tryd.f13 = some kO := by kernel_rfl
theorem quj : jb maps Tryd.prog { loc := [1], org := [(1, 1), (8, 1), (12, 1), (17, 1), (23, 1)], mv := [(3, 3, 0)], bl := [(0, [1])], ll := [] } true Tryd.f14 = some qh2 := by kernel_rfl
theorem quN : jb maps Tryd.prog { loc := [1], org := [(1, 1), (6, 1), (10, 1), (15, 1), (21, 1)], mv := [], bl := [], ll := [] } true Tryd.f15 = some qcA := by kernel_rfl
theorem qup : jb maps Tryd.prog { loc := [], org := [], mv := [], bl := [(0, [])], ll := [] } true Tryd.f16 = some jC := by kernel_rfl
theorem quJ : jb maps Tryd.prog { loc := [], org := [], mv := [(5, 5, 0), (5, 0, 0), (5, 4, 0), (3, 6, 0), (3, 0, 0), (3, 5, 0), (1, 2, 0), (1, 0, 0), (1, 1, 0)], bl := [(1, [1, 5]), (0, [1, 5])], ll := [(0, [1, 5])] } true Tryd.f17 = some qgU := by kernel_rfl
theorem qu4 : jb maps Tryd.prog { loc := [1], org := [(1, 1), (3, 1), (7, 1), (12, 1), (16, 1)], mv := [(1, 12, 0)], bl := [], ll := [] } true Tryd.f18 = some qgT := by kernel_rfl
theorem quh : jb maps Tryd.prog { loc := [], org := [], mv := [(1, 9, 0), (1, 0, 0), (1, 8, 0)], bl := [], ll := [] } true Tryd.f19 = some qeO := by kernel_rfl
theorem quH : jb maps Tryd.prog { loc := [], org := [], mv := [(4, 5, 0), (4, 0, 0), (2, 6, 0), (2, 0, 0), (2, 5, 7), (4, 4, 7)], bl := [(1, [0, 1]), (0, [0, 1])], ll := [(0, [0, 1])] } true Tryd.f20 = some zJ := by kernel_rfl
theorem quf : jb maps Tryd.prog { loc := [1], org := [(1, 1), (3, 1), (7, 1), (11, 1)], mv := [(1, 7, 0), (1, 3, 0)], bl := [], ll := [] } true Tryd.f21 = some zP := by kernel_rfl
theorem quk : jb maps Tryd.prog { loc := [], org := [], mv := [], bl := [], ll := [] } true Tryd.f22 = some y9 := by kernel_rfl
theorem quI : jb maps Tryd.prog { loc := [], org := [], mv := [], bl := [(1, [5, 12, 13, 14]), (0, [])], ll := [(0, [5, 12, 13, 14])] } false Tryd.f23 = some qcp := by kernel_rfl
theorem quD : jb maps Tryd.prog { loc := [2, 4], org := [(2, 2), (4, 4), (24, 4), (48, 4)], mv := [(9, 3, 1)], bl := [], ll := [] } false Tryd.f24 = some yV := by kernel_rfl
theorem quQ : jb maps Tryd.prog { loc := [], org := [], mv := [(5, 6, 0)], bl := [(1, [0, 5, 6]), (0, [])], ll := [(0, [0, 5, 6])] } false Tryd.f25 = some yD := by kernel_rfl
theorem qus : jb maps Tryd.prog { loc := [], org := [], mv := [(2, 3, 0)], bl := [], ll := [] } true Tryd.f26 = some qaa := by kernel_rfl
theorem qut : jb maps Tryd.prog { loc := [], org := [], mv := [(1, 1, 0)], bl := [], ll := [] } true Tryd.f27 = some qhb := by kernel_rfl
theorem quB : jb maps Tryd.prog { loc := [], org := [], mv := [(1, 2, 0), (1, 0, 0), (1, 1, 0)], bl := [], ll := [] } true Tryd.f28 = some qe0 := by kernel_rfl
theorem quT : jb maps Tryd.prog { loc := [], org := [], mv := [(1, 1, 0)], bl := [], ll := [] } true Tryd.f29 = some qdt := by kernel_rfl
theorem qun : jb maps Tryd.prog { loc := [], org := [], mv := [], bl := [], ll := [] } true Tryd.f30 = some qeR := by kernel_rfl
theorem quA : jb maps Tryd.prog { loc := [], org := [], mv := [(3, 3, 0), (3, 2, 0)], bl := [], ll := [] } true Tryd.f31 = some qat := by kernel_rfl
theorem qu7 : jb maps Tryd.prog { loc := [], org := [], mv := [], bl := [], ll := [] } true Tryd.f32 = some qbF := by kernel_rfl
theorem qu9 : jb maps Tryd.prog { loc := [], org := [], mv := [(1, 0, 0), (1, 1, 0)], bl := [], ll := [] } false Tryd.f33 = some yP := by kernel_rfl
theorem quy : jb maps Tryd.prog { loc := [], org := [], mv := [(14, 2, 0), (13, 2, 0), (13, 0, 0), (13, 1, 0), (9, 4, 0)], bl := [(1, [0, 3, 4, 5, 6]), (0, [0, 3, 5]), (3, [0, 9, 10, 12]), (2, [0, 9, 10, 12]), (7, [0, 9, 10, 12]), (6, [0, 9, 10, 12]), (5, [0, 9, 10, 11, 12]), (4, [0, 9, 10, 11])], ll := [(0, [0, 3, 4, 5, 6]), (2, [0, 9, 10, 12]), (4, [0, 9, 10, 11, 12]), (6, [0, 9, 10, 12])] } true Tryd.f34 = some qdT := by kernel_rfl
theorem quu : jb maps Tryd.prog { loc := [], org := [], mv := [(1, 2, 0), (1, 0, 0), (1, 1, 0)], bl := [], ll := [] } true Tryd.f35 = some qbr := by kernel_rfl
theorem quR : jb maps Tryd.prog { loc := [11], org := [(11, 11), (57, 11), (59, 11)], mv := [(14, 3, 0), (13, 7, 0), (13, 0, 0), (13, 6, 0), (8, 6, 0), (8, 0, 0), (8, 5, 0), (6, 1, 0), (6, 2, 0), (1, 1, 0)], bl := [(1, [0, 1, 5, 6, 14]), (0, [0, 5, 6]), (3, [0, 9, 47, 48, 49]), (2, [9])], ll := [(0, [0, 1, 5, 6, 14]), (2, [0, 9, 47, 48, 49])] } true Tryd.f36 = some qcv := by kernel_rfl
theorem quL : jb maps Tryd.prog { loc := [], org := [], mv := [(13, 3, 0), (13, 1, 0), (13, 2, 1)], bl := [(0, [])], ll := [] } true Tryd.f37 = some qds := by kernel_rfl
theorem quX : jb maps Tryd.prog { loc := [], org := [], mv := [(14, 2, 0), (14, 5, 2), (13, 4, 0), (12, 4, 0), (9, 3, 0), (9, 4, 1), (8, 2, 0), (5, 2, 0), (3, 2, 0), (3, 0, 0), (3, 1, 0)], bl := [], ll := [] } true Tryd.f38 = some qad := by kernel_rfl
theorem qui : jb maps Tryd.prog { loc := [], org := [], mv := [(7, 4, 0), (7, 0, 0), (7, 3, 0), (4, 6, 0)], bl := [], ll := [] } true Tryd.f39 = some qay := by kernel_rfl
theorem qua : jb maps Tryd.prog { loc := [], org := [], mv := [], bl := [], ll := [] } true Tryd.f40 = some qa8 := by kernel_rfl
theorem quY : jb maps Tryd.prog { loc := [], org := [], mv := [(1, 3, 0)], bl := [], ll := [] } true Tryd.f41 = some qaf := by kernel_rfl
theorem quE : jb maps Tryd.prog { loc := [], org := [], mv := [(26, 5, 1), (12, 2, 0), (2, 3, 0)], bl := [(1, [0, 1, 4]), (0, [0, 1, 4])], ll := [(0, [0, 1, 4])] } false Tryd.f42 = some yu := by kernel_rfl
theorem quF : jb maps Tryd.prog { loc := [], org := [], mv := [(30, 3, 0), (29, 4, 0), (29, 0, 0), (29, 3, 0), (17, 2, 0), (9, 2, 0), (8, 4, 0)], bl := [(3, [0, 1, 3, 4, 10, 11, 12, 13, 17]), (2, [0, 1, 3, 4, 10, 11, 12, 13]), (1, [0, 1, 3, 4, 10, 11, 12, 13, 14, 15, 16]), (0, [0, 1, 3, 4, 10, 11, 12, 13])], ll := [(2, [0, 1, 3, 4, 10, 11, 12, 13, 17]), (0, [0, 1, 3, 4, 10, 11, 12, 13, 14, 15, 16])] } false Tryd.f43 = some yT := by kernel_rfl
theorem quK : jb maps Tryd.prog { loc := [], org := [], mv := [(15, 6, 0)], bl := [(1, [0, 1, 19, 20]), (0, []), (3, [0, 1, 7, 8]), (2, [])], ll := [(0, [0, 1, 19, 20]), (2, [0, 1, 7, 8])] } true Tryd.f44 = some qeT := by kernel_rfl
theorem qu2 : jb maps Tryd.prog { loc := [10], org := [(10, 10), (69, 10), (75, 10), (79, 10), (84, 10), (87, 10), (93, 10)], mv := [(15, 6, 0)], bl := [(1, [0, 1, 15, 16]), (0, []), (3, [0, 1, 7, 8]), (2, [])], ll := [(0, [0, 1, 15, 16]), (2, [0, 1, 7, 8])] } true Tryd.f45 = some qfc := by kernel_rfl
theorem qur : jb maps Tryd.prog { loc := [], org := [], mv := [], bl := [], ll := [] } true Tryd.f46 = some qac := by kernel_rfl
theorem qul : jb maps Tryd.prog { loc := [], org := [], mv := [], bl := [], ll := [] } true Tryd.f47 = some qdy := by kernel_rfl
theorem quW : jb maps Tryd.prog { loc := [], org := [], mv := [], bl := [], ll := [] } true Tryd.f48 = some yQ := by kernel_rfl
theorem qug : jb maps Tryd.prog { loc := [], org := [], mv := [], bl := [], ll := [] } true Tryd.f49 = some yw := by kernel_rfl
theorem qvb : jb maps Tryd.prog { loc := [], org := [], mv := [(2, 2, 0), (2, 0, 0), (2, 1, 0), (1, 3, 0)], bl := [], ll := [] } true Tryd.f50 = some qaW := by kernel_rfl
theorem qvf : jb maps Tryd.prog { loc := [], org := [], mv := [(3, 9, 0)], bl := [], ll := [] } true Tryd.f51 = some qaw := by kernel_rfl
theorem qub : jb maps Tryd.prog { loc := [], org := [], mv := [(3, 9, 0)], bl := [], ll := [] } true Tryd.f52 = some qas := by kernel_rfl
theorem qu3 : jb maps Tryd.prog { loc := [], org := [], mv := [], bl := [], ll := [] } false Tryd.f80 = some qek := by kernel_rfl
theorem qvy : quU Tryd.prog maps W.pg := by
  intro f' i hl fn' hf
  have e : f' = i := qrI hl
  subst e
  unfold W.pg prog at hf
  simp only [Bool.cond_eq_ite] at hf
  by_cases h2 : f' = 2
  · subst h2; simp at hf; subst hf; exact ⟨_, _, _, Tryd.func2, by decide +kernel, qvk⟩
  rw [if_neg (by simpa using h2)] at hf
  by_cases h3 : f' = 3
  · subst h3; simp at hf; subst hf; exact ⟨_, _, _, Tryd.func3, by decide +kernel, qvt⟩
  rw [if_neg (by simpa using h3)] at hf
  by_cases h4 : f' = 4
  · subst h4; simp at hf; subst hf; exact ⟨_, _, _, Tryd.func4, by decide +kernel, qvx⟩
  rw [if_neg (by simpa using h4)] at hf
  by_cases h5 : f' = 5
  · subst h5; simp at hf; subst hf; exact ⟨_, _, _, Tryd.func5, by decide +kernel, qvz⟩
  rw [if_neg (by simpa using h5)] at hf
  by_cases h6 : f' = 6
  · subst h6; simp at hf; subst hf; exact ⟨_, _, _, Tryd.func6, by decide +kernel, qvq⟩
  rw [if_neg (by simpa using h6)] at hf
  by_cases h7 : f' = 7
  · subst h7; simp at hf; subst hf; exact ⟨_, _, _, Tryd.func7, by decide +kernel, qvo⟩
  rw [if_neg (by simpa using h7)] at hf
  by_cases h8 : f' = 8
  · subst h8; simp at hf; subst hf; exact ⟨_, _, _, Tryd.func8, by decide +kernel, qvw⟩
  rw [if_neg (by simpa using h8)] at hf
  by_cases h9 : f' = 9
  · subst h9; simp at hf; subst hf; exact ⟨_, _, _, Tryd.func9, by decide +kernel, qvu⟩
  rw [if_neg (by simpa using h9)] at hf
  by_cases h10 : f' = 10
  · subst h10; simp at hf; subst hf; exact ⟨_, _, _, Tryd.func10, by decide +kernel, qu5⟩
  rw [if_neg (by simpa using h10)] at hf
  by_cases h11 : f' = 11
  · subst h11; simp at hf; subst hf; exact ⟨_, _, _, Tryd.func11, by decide +kernel, qux⟩
  rw [if_neg (by simpa using h11)] at hf
  by_cases h12 : f' = 12
  · subst h12; simp at hf; subst hf; exact ⟨_, _, _, Tryd.func12, by decide +kernel, qud⟩
  rw [if_neg (by simpa using h12)] at hf
  by_cases h13 : f' = 13
  · subst h13; simp at hf; subst hf; exact ⟨_, _, _, Tryd.func13, by decide +kernel, qu6⟩
  rw [if_neg (by simpa using h13)] at hf
  by_cases h14 : f' = 14
  · subst h14; simp at hf; subst hf; exact ⟨_, _, _, Tryd.func14, by decide +kernel, quj⟩
  rw [if_neg (by simpa using h14)] at hf
  by_cases h15 : f' = 15
  · subst h15; simp at hf; subst hf; exact ⟨_, _, _, Tryd.func15, by decide +kernel, quN⟩
  rw [if_neg (by simpa using h15)] at hf
  by_cases h16 : f' = 16
  · subst h16; simp at hf; subst hf; exact ⟨_, _, _, Tryd.func16, by decide +kernel, qup⟩
  rw [if_neg (by simpa using h16)] at hf
  by_cases h17 : f' = 17
  · subst h17; simp at hf; subst hf; exact ⟨_, _, _, Tryd.func17, by decide +kernel, quJ⟩
  rw [if_neg (by simpa using h17)] at hf
  by_cases h18 : f' = 18
  · subst h18; simp at hf; subst hf; exact ⟨_, _, _, Tryd.func18, by decide +kernel, qu4⟩
  rw [if_neg (by simpa using h18)] at hf
  by_cases h19 : f' = 19
  · subst h19; simp at hf; subst hf; exact ⟨_, _, _, Tryd.func19, by decide +kernel, quh⟩
  rw [if_neg (by simpa using h19)] at hf
  by_cases h20 : f' = 20
  · subst h20; simp at hf; subst hf; exact ⟨_, _, _, Tryd.func20, by decide +kernel, quH⟩
  rw [if_neg (by simpa using h20)] at hf
  by_cases h21 : f' = 21
  · subst h21; simp at hf; subst hf; exact ⟨_, _, _, Tryd.func21, by decide +kernel, quf⟩
  rw [if_neg (by simpa using h21)] at hf
  by_cases h22 : f' = 22
  · subst h22; simp at hf; subst hf; exact ⟨_, _, _, Tryd.func22, by decide +kernel, quk⟩
  rw [if_neg (by simpa using h22)] at hf
  by_cases h23 : f' = 23
  · subst h23; simp at hf; subst hf; exact ⟨_, _, _, Tryd.func23, by decide +kernel, quI⟩
  rw [if_neg (by simpa using h23)] at hf
  by_cases h24 : f' = 24
  · subst h24; simp at hf; subst hf; exact ⟨_, _, _, Tryd.func24, by decide +kernel, quD⟩
  rw [if_neg (by simpa using h24)] at hf
  by_cases h25 : f' = 25
  · subst h25; simp at hf; subst hf; exact ⟨_, _, _, Tryd.func25, by decide +kernel, quQ⟩
  rw [if_neg (by simpa using h25)] at hf
  by_cases h26 : f' = 26
  · subst h26; simp at hf; subst hf; exact ⟨_, _, _, Tryd.func26, by decide +kernel, qus⟩
  rw [if_neg (by simpa using h26)] at hf
  by_cases h27 : f' = 27
  · subst h27; simp at hf; subst hf; exact ⟨_, _, _, Tryd.func27, by decide +kernel, qut⟩
  rw [if_neg (by simpa using h27)] at hf
  by_cases h28 : f' = 28
  · subst h28; simp at hf; subst hf; exact ⟨_, _, _, Tryd.func28, by decide +kernel, quB⟩
  rw [if_neg (by simpa using h28)] at hf
  by_cases h29 : f' = 29
  · subst h29; simp at hf; subst hf; exact ⟨_, _, _, Tryd.func29, by decide +kernel, quT⟩
  rw [if_neg (by simpa using h29)] at hf
  by_cases h30 : f' = 30
  · subst h30; simp at hf; subst hf; exact ⟨_, _, _, Tryd.func30, by decide +kernel, qun⟩
  rw [if_neg (by simpa using h30)] at hf
  by_cases h31 : f' = 31
  · subst h31; simp at hf; subst hf; exact ⟨_, _, _, Tryd.func31, by decide +kernel, quA⟩
  rw [if_neg (by simpa using h31)] at hf
  by_cases h32 : f' = 32
  · subst h32; simp at hf; subst hf; exact ⟨_, _, _, Tryd.func32, by decide +kernel, qu7⟩
  rw [if_neg (by simpa using h32)] at hf
  by_cases h33 : f' = 33
  · subst h33; simp at hf; subst hf; exact ⟨_, _, _, Tryd.func33, by decide +kernel, qu9⟩
  rw [if_neg (by simpa using h33)] at hf
  by_cases h34 : f' = 34
  · subst h34; simp at hf; subst hf; exact ⟨_, _, _, Tryd.func34, by decide +kernel, quy⟩
  rw [if_neg (by simpa using h34)] at hf
  by_cases h35 : f' = 35
  · subst h35; simp at hf; subst hf; exact ⟨_, _, _, Tryd.func35, by decide +kernel, quu⟩
  rw [if_neg (by simpa using h35)] at hf
  by_cases h36 : f' = 36
  · subst h36; simp at hf; subst hf; exact ⟨_, _, _, Tryd.func36, by decide +kernel, quR⟩
  rw [if_neg (by simpa using h36)] at hf
  by_cases h37 : f' = 37
  · subst h37; simp at hf; subst hf; exact ⟨_, _, _, Tryd.func37, by decide +kernel, quL⟩
  rw [if_neg (by simpa using h37)] at hf
  by_cases h38 : f' = 38
  · subst h38; simp at hf; subst hf; exact ⟨_, _, _, Tryd.func38, by decide +kernel, quX⟩
  rw [if_neg (by simpa using h38)] at hf
  by_cases h39 : f' = 39
  · subst h39; simp at hf; subst hf; exact ⟨_, _, _, Tryd.func39, by decide +kernel, qui⟩
  rw [if_neg (by simpa using h39)] at hf
  by_cases h40 : f' = 40
  · subst h40; simp at hf; subst hf; exact ⟨_, _, _, Tryd.func40, by decide +kernel, qua⟩
  rw [if_neg (by simpa using h40)] at hf
  by_cases h41 : f' = 41
  · subst h41; simp at hf; subst hf; exact ⟨_, _, _, Tryd.func41, by decide +kernel, quY⟩
  rw [if_neg (by simpa using h41)] at hf
  by_cases h42 : f' = 42
  · subst h42; simp at hf; subst hf; exact ⟨_, _, _, Tryd.func42, by decide +kernel, quE⟩
  rw [if_neg (by simpa using h42)] at hf
  by_cases h43 : f' = 43
  · subst h43; simp at hf; subst hf; exact ⟨_, _, _, Tryd.func43, by decide +kernel, quF⟩
  rw [if_neg (by simpa using h43)] at hf
  by_cases h44 : f' = 44
  · subst h44; simp at hf; subst hf; exact ⟨_, _, _, Tryd.func44, by decide +kernel, quK⟩
  rw [if_neg (by simpa using h44)] at hf
  by_cases h45 : f' = 45
  · subst h45; simp at hf; subst hf; exact ⟨_, _, _, Tryd.func45, by decide +kernel, qu2⟩
  rw [if_neg (by simpa using h45)] at hf
  by_cases h46 : f' = 46
  · subst h46; simp at hf; subst hf; exact ⟨_, _, _, Tryd.func46, by decide +kernel, qur⟩
  rw [if_neg (by simpa using h46)] at hf
  by_cases h47 : f' = 47
  · subst h47; simp at hf; subst hf; exact ⟨_, _, _, Tryd.func47, by decide +kernel, qul⟩
  rw [if_neg (by simpa using h47)] at hf
  by_cases h48 : f' = 48
  · subst h48; simp at hf; subst hf; exact ⟨_, _, _, Tryd.func48, by decide +kernel, quW⟩
  rw [if_neg (by simpa using h48)] at hf
  by_cases h49 : f' = 49
  · subst h49; simp at hf; subst hf; exact ⟨_, _, _, Tryd.func49, by decide +kernel, qug⟩
  rw [if_neg (by simpa using h49)] at hf
  by_cases h50 : f' = 50
  · subst h50; simp at hf; subst hf; exact ⟨_, _, _, Tryd.func50, by decide +kernel, qvb⟩
  rw [if_neg (by simpa using h50)] at hf
  by_cases h51 : f' = 51
  · subst h51; simp at hf; subst hf; exact ⟨_, _, _, Tryd.func51, by decide +kernel, qvf⟩
  rw [if_neg (by simpa using h51)] at hf
  by_cases h52 : f' = 52
  · subst h52; simp at hf; subst hf; exact ⟨_, _, _, Tryd.func52, by decide +kernel, qub⟩
  rw [if_neg (by simpa using h52)] at hf
  by_cases h80 : f' = 80
  · subst h80; simp at hf; subst hf; exact ⟨_, _, _, Tryd.func80, by decide +kernel, qu3⟩
  rw [if_neg (by simpa using h80)] at hf
  cases hf
theorem qtY : qkR Tryd.prog maps := qlG rfl
theorem tab : Tab Tryd.prog maps W.pg := ⟨qvy, qtY⟩
def qsb : D → List Int
  | .agg l => l.map fun d => match d with | .i _ n => n | _ => 0
  | _ => []
theorem qmu {α : Type} {n : Nat} {x : α} : ∀ {l : List (Nat × α)}, W.look l n = some x → (n, x) ∈ l
  | [], h => by cases h
  | (m, y) :: l, h => by
    simp only [W.look, Bool.cond_eq_ite] at h
    split at h
    · rename_i hb
      cases h
      have := Nat.eq_of_beq_eq_true hb
      subst this
      exact .head _
    · exact .tail _ (qmu h)
theorem qkO {W : World} (hL : laidMetH Tryd.prog Rows.codeReadsRow.laid W) {name : String} {k : IntKind} {d : D} {g : Nat} {t e : TypeId} {n : Nat}
    (hg : Tryd.prog.globalNamed name = some g) (hty : (Tryd.prog.globals[g]?).map (·.type) = some t) (ht : Tryd.prog.underlying t = some (.array n e)) (he : Tryd.prog.underlying e = some (.int k)) (hce : Tryd.prog.cellsOf e = 1) (hct : Tryd.prog.cellsOf t = n)
    (hm : (name, Go.Lib.tabData k (qsb d)) ∈ Rows.codeReadsRow.laid) (hd : d = .agg ((qsb d).map (D.i k))) (h0 : (qsb d).isEmpty = false) :
    ∃ name k zs, Tryd.prog.globalNamed name = some g ∧ d = .agg (zs.map (D.i k)) ∧ zs ≠ [] ∧ Go.Lib.TabIs Tryd.prog W name k zs := by
  obtain ⟨ps, hv, _⟩ := (show laidMet Tryd.prog Rows.codeReadsRow.laid W from hL)
  exact ⟨name, k, qsb d, hg, hd, (fun h => by rw [h] at h0; cases h0), qj1 hg hty ht he hce hct hv hm⟩
theorem qvp {W : World} (hL : laidMetH Tryd.prog Rows.codeReadsRow.laid W) : GlOk maps (g0 W) W := by
  refine qpJ (P := Tryd.prog) ?_ fun n x hn => ?_
  · intro n hn; exact absurd hn (by simp [maps])
  have hm := qmu hn
  simp only [maps, List.mem_cons, Prod.mk.injEq, List.not_mem_nil, or_false] at hm
  rcases hm with ⟨rfl, rfl⟩ | ⟨rfl, rfl⟩ | ⟨rfl, rfl⟩ | ⟨rfl, rfl⟩
  · exact qkO hL (name := "strings.asciiSpace") (k := .u8) (d := glD 0) (by kernel_rfl) (by kernel_rfl) Tryd.underlying66 Tryd.underlying5 (by kernel_rfl) (by kernel_rfl) (.tail _ (.tail _ (.tail _ (.tail _ (.head _))))) rfl rfl
  · exact qkO hL (name := "internal/strconv.uint64pow10") (k := .u64) (d := glD 2) (by kernel_rfl) (by kernel_rfl) Tryd.underlying93 Tryd.underlying47 (by kernel_rfl) (by kernel_rfl) (.tail _ (.tail _ (.head _))) rfl rfl
  · exact qkO hL (name := "math/bits.deBruijn32tab") (k := .u8) (d := glD 3) (by kernel_rfl) (by kernel_rfl) Tryd.underlying99 Tryd.underlying5 (by kernel_rfl) (by kernel_rfl) (.head _) rfl rfl
  · exact qkO hL (name := "math/bits.deBruijn64tab") (k := .u8) (d := glD 4) (by kernel_rfl) (by kernel_rfl) Tryd.underlying100 Tryd.underlying5 (by kernel_rfl) (by kernel_rfl) (.tail _ (.head _)) rfl rfl
theorem qn8 {α β : Type} {e : α → D} {g : β → α} {x : D} {L : List β} (h : SlD (fun b => e (g b)) x L) : SlD e x (L.map g) := by
  cases h with
  | nil => exact .nil
  | sl =>
    rw [show L.map (fun b => e (g b)) = (L.map g).map e by rw [List.map_map]; rfl]
    exact .sl _
theorem qt8 {y : D} (h : Arg Tryd.prog 26 y) : ∃ p : {p : Int × Int // w32 p}, y = eOp p.1 := by
  obtain ⟨n, xs, ht, rfl⟩ := h
  cases n with
  | zero => exact ht.elim
  | succ n =>
    simp only [Ty, Tryd.underlying26] at ht
    obtain ⟨yss, rfl, hl, hq⟩ := ht
    match yss, hl, hq with
    | [q0, q1], _, hq =>
      have h0 := hq 0 _ q0 rfl rfl
      have h1 := hq 1 _ q1 rfl rfl
      cases n with
      | zero => exact h0.elim
      | succ n =>
        simp only [Ty, Tryd.underlying3, Tryd.underlying21] at h0 h1
        obtain ⟨a, rfl, _⟩ := h0
        obtain ⟨b, rfl, hb⟩ := h1
        have hb : w32 (a, b) := by
          simp [Lit.wf, IntKind.min, IntKind.max, IntKind.bits, IntKind.signed] at hb
          unfold w32; simp only []; omega
        exact ⟨⟨(a, b), hb⟩, by simp [qbz, Tryd.underlying26, elD, eOp]⟩
theorem qqY {y : D} (h : Arg Tryd.prog 5 y) : ∃ p : {n : Nat // n < 256}, y = e8 p.1 := by
  obtain ⟨a, rfl, ha⟩ := qk7 Tryd.underlying5 h
  simp [Lit.wf, IntKind.min, IntKind.max, IntKind.bits, IntKind.signed] at ha
  exact ⟨⟨a.toNat, by omega⟩, by simp only [e8]; rw [Int.toNat_of_nonneg (by omega)]⟩
theorem contract (H : Type) (enc : TypeId × Value → H) (w0 : World) (base : Nat) (args : Array Value) (ds gs : List (DataW H)) (before : List MemPlace)
    (hval : ∀ (j : Nat) t v, Tryd.f4.params[j]? = some t → args[j]? = some v → Value.okWide Tryd.prog w0 .any base t v)
    (hW : DataW.Whole enc Tryd.prog Tryd.f4.params.toList Rows.codeReadsSpec.vars false w0 args.toList ds gs before) (hL : laidMetH Tryd.prog Rows.codeReadsRow.laid w0) :
    Calls Tryd.prog 4 args w0 fun e W' => ∃ v, e = .returned v ∧ Rows.codeReadsSpec.post enc Tryd.prog Tryd.f4 false true false false w0 args v W' := by
  have hW' := hW
  obtain ⟨p, q, hA, hV, _⟩ := hW
  have hs : Rows.codeReadsSpec.fn H ds = { results := [.lit (.bool true)], args := ds } := by
    have hA : DataW.TrodAll enc Tryd.prog w0 0 (fun _ => true) true Tryd.f4.params.toList args.toList ds p := hA
    rw [Tryd.params4] at hA
    obtain ⟨v0, vs0, d0, ds0, p0, q0, _, rfl, _, _, r0⟩ := trodAll_cons hA
    obtain ⟨v1, vs1, d1, ds1, p1, q1, _, rfl, _, _, r1⟩ := trodAll_cons r0
    obtain ⟨v2, vs2, d2, ds2, p2, q2, _, rfl, _, _, r2⟩ := trodAll_cons r1
    obtain ⟨v3, vs3, d3, ds3, p3, q3, _, rfl, _, _, r3⟩ := trodAll_cons r2
    obtain ⟨_, rfl, _⟩ := trodAll_nil r3
    rfl
  refine qkS (M := maps) (pg := W.pg) (i := 4) (ts := [29, 5, 22, 26, 3, 21, 39]) (tb := 4) (b := base) (r := .any) (qvp hL) (by kernel_rfl) tab (fun i vs H r h => by cases h) (fun _ _ _ _ h => by cases h) (by kernel_rfl) (by decide)
    (by kernel_rfl) (by rw [Tryd.params4]; decide) qsf hval rfl hW' hs (by kernel_rfl) Tryd.underlying4 (by kernel_rfl) (by rw [Tryd.params4]; decide +kernel) ?_
  intro xs hxs _
  rw [Tryd.params4] at hxs
  cases hxs with
  | cons h0 hxs =>
    cases hxs with
    | cons h1 hxs =>
      cases hxs with
      | cons h2 hxs =>
        cases hxs with
        | cons h3 hxs =>
          cases hxs
          obtain ⟨R, hR⟩ := qqX (f := fun p : {n : Nat // n < 256} => e8 p.1) Tryd.underlying29 h0 (fun y hy => qqY hy)
          obtain ⟨L, hL'⟩ := qqX (f := fun p : {p : Int × Int // w32 p} => eOp p.1) Tryd.underlying22 h1 (fun y hy => qt8 hy)
          obtain ⟨a, rfl, ha⟩ := qk7 Tryd.underlying39 h2
          obtain ⟨b, rfl, hb⟩ := qk7 Tryd.underlying5 h3
          simp [Lit.wf, IntKind.min, IntKind.max, IntKind.bits, IntKind.signed] at ha
          obtain ⟨k, rfl⟩ : ∃ k : Nat, a = (k : Int) := ⟨a.toNat, by omega⟩
          obtain ⟨lo, hk⟩ := qnA
          obtain ⟨lo', hr⟩ := qpc (at' := k) (b := b) (qn8 (g := Subtype.val) hR) (fun c hc => by obtain ⟨q, _, rfl⟩ := List.mem_map.1 hc; exact q.2) (qn8 (g := Subtype.val) hL') (fun p hp => by obtain ⟨q, _, rfl⟩ := List.mem_map.1 hp; exact q.2) (by omega) hk
          obtain ⟨n, hn⟩ := qd9.1 hr
          exact ⟨n, _, hn, rfl, rfl⟩
noncomputable def qhx (os : Os) : World := World.laidAll Tryd.prog os Rows.codeReadsRow.laid
theorem qqV (os : Os) : laidMetH Tryd.prog Rows.codeReadsRow.laid ((qhx os).forCall (fun _ _ => 0) ⟨#[], #[.slice none 0 0, .slice none 0 0, .int .u16 0, .int .u8 0], []⟩).memory :=
  laidMet_laidAll (P := Tryd.prog) (os := os) (laid := Rows.codeReadsRow.laid) #[.slice none 0 0, .slice none 0 0, .int .u16 0, .int .u8 0] (by kernel_rfl) (by kernel_rfl)
theorem reads (os : Os) {H : Type} (enc : TypeId × Value → H) : ∃ places, DataW.whole enc Tryd.prog ((qhx os).forCall (fun _ _ => 0) ⟨#[], #[.slice none 0 0, .slice none 0 0, .int .u16 0, .int .u8 0], []⟩).memory Tryd.f4.params.toList Rows.codeReadsSpec.vars false #[Value.slice none 0 0, .slice none 0 0, .int .u16 0, .int .u8 0].toList 8 = some ([.nil, .nil, .lit (.int .u16 0), .lit (.int .u8 0)], [], places) :=
  ⟨[], by kernel_rfl⟩
theorem lifted (os : Os) (started : os.Started) (H : Type) (enc : TypeId × Value → H) (F : Stop.Interp) :
    ReturnsInHanded {} Tryd.checked os 4 .any ((OpenSpec.ofChange Rows.codeReadsSpec).preRow enc Tryd.prog Tryd.f4 Rows.codeReadsRow.domain false Rows.codeReadsRow.laid) (((OpenSpec.ofChange Rows.codeReadsSpec).at F).post enc Tryd.prog Tryd.f4 false true false false) := by
  obtain ⟨places, hx⟩ := reads os enc
  refine returnsInHanded_of_row (C := Tryd.checked) (s := OpenSpec.ofChange Rows.codeReadsSpec) own started (by kernel_rfl) Tryd.func4
    (witness_row_atRef (enc := enc) (C := Tryd.checked) false (qhx os) #[.slice none 0 0, .slice none 0 0, .int .u16 0, .int .u8 0] (World.laidAll_os _ _ _) (by kernel_rfl) (by kernel_rfl) (by kernel_rfl)
      (OpenSpec.preRow_of_cond 8 hx (by kernel_rfl) (fun k hk => by cases hk) (by kernel_rfl) (qqV os))) ?_
  intro W base args ds gs before hval hW _ _ _ hL _ _
  exact contract H enc W base args ds gs before hval hW hL
theorem said : Rows.CodeReadsSaid :=
  OpenClaim.holds_of_cond 4 Tryd.f4 rfl rfl rfl rfl rfl rfl rfl ⟨rfl, rfl, rfl, rfl, rfl⟩ rfl rfl rfl rfl rfl (by kernel_rfl) Tryd.func4 (by kernel_rfl)
    (of_decide_eq_true (by kernel_rfl)) (by unfold Func.isWrapper; first | (rw [if_pos (by decide +kernel)]; kernel_rfl) | (rw [if_neg (by decide +kernel)]; exact ⟨rfl, rfl⟩))
    (fun os started H enc _ F => by rw [OpenClaim.pre_eq_preRow]; exact lifted os started H enc F)
theorem plain (f : FuncId) (fn : Func) (hf : Tryd.pinned.checked.prog.funcNamed "wafer/waferlaw7.CodeReads" = some f) (hfn : Tryd.pinned.checked.prog.funcs[f]? = some fn) :
    false = Tryd.pinned.checked.prog.looks [] ∧ ∀ (j : Nat) t, fn.params[j]? = some t → Tryd.pinned.checked.prog.wantsStandIn t = false := by
  obtain rfl : f = 4 := Option.some.inj ((show Tryd.prog.funcNamed "wafer/waferlaw7.CodeReads" = some 4 by kernel_rfl).symm.trans hf) |>.symm
  obtain rfl : fn = Tryd.f4 := (Option.some.inj (Tryd.func4.symm.trans hfn)).symm
  refine ⟨by kernel_rfl, fun j t ht => ?_⟩
  rw [Tryd.params4] at ht
  have ht := Array.mem_of_getElem? ht
  simp only [List.mem_toArray, List.mem_cons, List.not_mem_nil, or_false] at ht
  rcases ht with rfl | rfl | rfl | rfl
  · exact (show Tryd.prog.wantsStandIn 29 = false by kernel_rfl)
  · exact (show Tryd.prog.wantsStandIn 22 = false by kernel_rfl)
  · exact (show Tryd.prog.wantsStandIn 39 = false by kernel_rfl)
  · exact (show Tryd.prog.wantsStandIn 5 = false by kernel_rfl)
theorem codeReads_holds : Rows.CodeReadsCardSaid :=
  Claim7.holds_tied_plain_at .later [] _ _ _ _ said (fun _ h => by cases h) (by kernel_rfl) (fun _ h => by cases h) codeReads_row_tie rfl ⟨rfl, rfl⟩ (by kernel_rfl) rfl plain (by kernel_rfl)
end Go.Proofs.YtmflhlbdfhgbnaaDoor
