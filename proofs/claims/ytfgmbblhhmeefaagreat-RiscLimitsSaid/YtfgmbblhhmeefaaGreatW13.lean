/-
  RiscLimits: what code refuses to be made: of expressions that need too many registers, of too many words, of too great a heap.: part 13 of what the proof rests on (a value semantics for a part of the language, sound against the model; the walks).
-/
import Derived.Test.YtfgmbblhhmeefaaGreatW12
open Nat renaming beq→qHm,le_refl→qHq,eq_of_beq_eq_true→qHr,zero_add→qHB,le_of_ble_eq_true→qHF
open Bool renaming cond_eq_ite→qHn,and_eq_true→qHo,false_eq_true→qHu,and_self→qHw,not_true→qHC
open Option renaming bind_eq_some_iff→qHp,bind_eq_bind→qHs,pure_def→qHy,map_some→qHz
open List renaming length_cons→qHt,length_nil→qHv,map_cons→qHx,cons_append→qHA,getElem?_cons_zero→qHD,nil_append→qHE,map_nil→qHG,length_append→qHH,set_cons_zero→qHI
namespace W
set_option maxRecDepth 100000
theorem qyA:rl_G0.Ok pgG:=qy kT (N:=1000) (by decide +kernel)
theorem qt2:rl_h0_0.Ok pgG:=qy kT (N:=1000) (by decide +kernel)
end W
