/-
  FrontAssigns, part 23.
-/
import Derived.Test.YtanpgonfloohoaaGreatDoorA21
/- The declarations, which all sources share: told once. -/
open Bool renaming cond_eq_ite->qOx,and_eq_true->qOy,false_eq_true->qOF
open Nat renaming eq_of_beq_eq_true->qOz,le_refl->qOB,beq->qOC,le_of_ble_eq_true->qOH
open Option renaming bind_eq_some_iff->qOA,bind_eq_bind->qOD,pure_def->qOE,map_some->qOG
namespace W
set_option maxRecDepth 100000
def hdT:List D:=[tk 6 0 6 [77,79,68,85,76,69] 0,tk 1 7 8 [77] 0,tk 5 8 9 [59] 0,tk 6 10 15 [67,79,78,83,84] 0,tk 1 16 17 [107] 0,tk 5 18 19 [61] 0,tk 2 20 21 [] 1,tk 5 21 22 [59] 0,tk 6 23 27 [84,89,80,69] 0,tk 1 28 29 [82] 0,tk 5 30 31 [61] 0,tk 6 32 38 [82,69,67,79,82,68] 0,tk 1 39 40 [120] 0,tk 5 40 41 [58] 0,tk 1 42 49 [73,78,84,69,71,69,82] 0,tk 6 50 53 [69,78,68] 0,tk 5 53 54 [59] 0,tk 1 55 56 [83] 0,tk 5 57 58 [61] 0,tk 6 59 65 [82,69,67,79,82,68] 0,tk 5 66 67 [40] 0,tk 1 67 68 [82] 0,tk 5 68 69 [41] 0,tk 6 70 73 [69,78,68] 0,tk 5 73 74 [59] 0,tk 6 75 78 [86,65,82] 0,tk 1 79 80 [105] 0,tk 5 80 81 [58] 0,tk 1 82 89 [73,78,84,69,71,69,82] 0,tk 5 89 90 [59] 0,tk 1 91 92 [99] 0,tk 5 92 93 [58] 0,tk 1 94 98 [67,72,65,82] 0,tk 5 98 99 [59] 0,tk 1 100 101 [98] 0,tk 5 101 102 [58] 0,tk 1 103 110 [66,79,79,76,69,65,78] 0,tk 5 110 111 [59] 0,tk 1 112 113 [115] 0,tk 5 113 114 [58] 0,tk 1 115 118 [83,69,84] 0,tk 5 118 119 [59] 0,tk 1 120 121 [112] 0,tk 5 121 122 [58] 0,tk 6 123 130 [80,79,73,78,84,69,82] 0,tk 6 131 133 [84,79] 0,tk 1 134 135 [82] 0,tk 5 135 136 [59] 0,tk 1 137 138 [113] 0,tk 5 138 139 [58] 0,tk 6 140 147 [80,79,73,78,84,69,82] 0,tk 6 148 150 [84,79] 0,tk 1 151 152 [83] 0,tk 5 152 153 [59] 0,tk 1 154 155 [114] 0,tk 5 155 156 [58] 0,tk 1 157 158 [82] 0,tk 5 158 159 [59] 0,tk 1 160 161 [119] 0,tk 5 161 162 [58] 0,tk 1 163 164 [83] 0,tk 5 164 165 [59] 0,tk 1 166 167 [116] 0,tk 5 167 168 [58] 0,tk 6 169 174 [65,82,82,65,89] 0,tk 2 175 176 [] 3,tk 6 177 179 [79,70] 0,tk 1 180 184 [67,72,65,82] 0,tk 5 184 185 [59] 0,tk 1 186 187 [118] 0,tk 5 187 188 [58] 0,tk 6 189 194 [65,82,82,65,89] 0,tk 2 195 196 [] 4,tk 6 197 199 [79,70] 0,tk 1 200 204 [67,72,65,82] 0,tk 5 204 205 [59] 0,tk 1 206 207 [97] 0,tk 5 207 208 [58] 0,tk 6 209 214 [65,82,82,65,89] 0,tk 2 215 216 [] 3,tk 6 217 219 [79,70] 0,tk 1 220 227 [73,78,84,69,71,69,82] 0,tk 5 227 228 [59] 0,tk 6 229 238 [80,82,79,67,69,68,85,82,69] 0,tk 1 239 240 [102] 0,tk 5 241 242 [40] 0,tk 1 242 243 [110] 0,tk 5 243 244 [58] 0,tk 1 245 252 [73,78,84,69,71,69,82] 0,tk 5 252 253 [41] 0,tk 5 253 254 [58] 0,tk 1 255 262 [73,78,84,69,71,69,82] 0,tk 5 262 263 [59] 0,tk 6 264 270 [82,69,84,85,82,78] 0,tk 1 271 272 [110] 0,tk 6 273 276 [69,78,68] 0,tk 1 277 278 [102] 0,tk 5 278 279 [59] 0,tk 6 280 285 [66,69,71,73,78] 0]
def sfx:List D:=[(.i .i64 0),(.i .i64 0),(.i .i64 0),(.s []),.nil,(.i .i32 0),(.s []),.nil,(.s []),(.b false),.nil,(.i .i64 0),(.i .i64 0),(.s []),.nil,.nil,.nil,.nil,(.b false)]
def hp (n:Nat) (xs:List D):List Obj:=[.map [((.s [107]),.d (.agg [(.i .i64 2),(.i .i64 0),(.i .i64 0),(.s []),.nil,(.i .i64 0),(.i .i64 1),(.i .i64 0),(.s []),.nil,(.i .i32 1),(.s []),.nil,(.s []),(.b false),.nil,(.i .i64 0),(.i .i64 0),(.s []),.nil,.nil,.nil,.nil,(.b false)])),((.s [82]),.d (.agg ((.i .i64 3)::(.i .i64 8)::(.i .i64 0)::(.s [77,46,82])::.nil::sfx))),((.s [83]),.d (.agg ((.i .i64 3)::(.i .i64 8)::(.i .i64 0)::(.s [77,46,83])::.nil::sfx)))],.cells [.d (.sl xs),.d (.i .i64 (.ofNat n)),.d (.i .i64 0),.d (.s [77]),.d .nil,.osl [(.agg [(.s [107]),(.b false),(.i .i64 0),(.i .i64 1),(.i .i64 0),(.s []),.nil,(.i .i32 1),(.s []),.nil])],.d .nil,.osl [(.agg [(.s [82]),(.b false),(.s []),(.sl [(.agg [(.s [120]),(.b false),(.i .i64 1),(.i .i64 0),(.s []),.nil])])]),(.agg [(.s [83]),(.b false),(.s [77,46,82]),.nil])],.d .nil,.d .nil,.d .nil,.d .nil,.map 2,.map 0,.d .nm,.d (.b false),.d .nil,.d (.i .i64 0)],.map [((.s [77,46,82]),.d (.agg [(.s [82]),(.b false),(.s []),(.sl [(.agg [(.s [120]),(.b false),(.i .i64 1),(.i .i64 0),(.s []),.nil])])])),((.s [77,46,83]),.d (.agg [(.s [83]),(.b false),(.s [77,46,82]),.nil]))],.map [],.map [((.s [120]),.d (.b true))],.map [((.s [120]),.d (.b true))]]
def qtj:List D->List Obj:=hp 25
def qub:List D->List Obj:=hp 26
def qt1 (xs:List D):List Obj:=[.cells [.d (.s []),.d .nil,.d .nil,.d .nil,.d .nil,.d .nil,.d .nil,.d .nil],.cells [.d .nil],.map [],.map [],.map [],.cells [.d (.sl xs),.d (.i .i64 3),.d (.s [77]),.d .nil,.d .nil,.d .nil,.d .nil,.d .nil,.d .nil,.d .nil,.ptr 10 0,.map 2,.map 3,.map 4,.d .nm,.d .nm,.d (.i .i64 0),.d .nil,.d .nil,.d (.b false)],.map [],.map [],.map [],.map [],.cells [.d (.s [77]),.map 6,.map 7,.map 8,.map 9,.d .nil],.cells [.ptr 10 0],.map [((.s [77]),.d (.b true))]]
def qt5 (xs:List D):List Obj:=[.cells [.d (.s []),.d .nil,.d .nil,.d .nil,.d .nil,.d .nil,.d .nil,.d .nil],.cells [.d .nil],.map [((.s [107]),.d (.i .i64 2)),((.s [82]),.d (.i .i64 3)),((.s [83]),.d (.i .i64 3)),((.s [105]),.d (.i .i64 4)),((.s [99]),.d (.i .i64 4)),((.s [98]),.d (.i .i64 4)),((.s [115]),.d (.i .i64 4)),((.s [112]),.d (.i .i64 4)),((.s [113]),.d (.i .i64 4)),((.s [114]),.d (.i .i64 4)),((.s [119]),.d (.i .i64 4)),((.s [116]),.d (.i .i64 4)),((.s [118]),.d (.i .i64 4)),((.s [97]),.d (.i .i64 4)),((.s [102]),.d (.i .i64 5))],.map [((.s [107]),.d (.agg [(.i .i64 0),(.i .i64 1),(.i .i64 0),(.s []),.nil,(.i .i32 1),(.s []),.nil]))],.map [((.s [82]),.d (.agg [(.i .i64 8),(.i .i64 0),(.s [77,46,82]),.nil])),((.s [83]),.d (.agg [(.i .i64 8),(.i .i64 0),(.s [77,46,83]),.nil]))],.cells [.d (.sl xs),.d (.i .i64 98),.d (.s [77]),.d .nil,.osl [(.agg [(.s [107]),(.b false),(.i .i64 0),(.i .i64 1),(.i .i64 0),(.s []),.nil,(.i .i32 1),(.s []),.nil])],.d .nil,.osl [(.agg [(.s [82]),(.b false),(.s []),(.sl [(.agg [(.s [120]),(.b false),(.i .i64 1),(.i .i64 0),(.s []),.nil])])]),(.agg [(.s [83]),(.b false),(.s [77,46,82]),.nil])],.osl [(.agg [(.s [105]),(.b false),(.i .i64 1),(.i .i64 0),(.s []),.nil]),(.agg [(.s [99]),(.b false),(.i .i64 2),(.i .i64 0),(.s []),.nil]),(.agg [(.s [98]),(.b false),(.i .i64 3),(.i .i64 0),(.s []),.nil]),(.agg [(.s [115]),(.b false),(.i .i64 4),(.i .i64 0),(.s []),.nil]),(.agg [(.s [112]),(.b false),(.i .i64 9),(.i .i64 0),(.s [77,46,82]),.nil]),(.agg [(.s [113]),(.b false),(.i .i64 9),(.i .i64 0),(.s [77,46,83]),.nil]),(.agg [(.s [114]),(.b false),(.i .i64 8),(.i .i64 0),(.s [77,46,82]),.nil]),(.agg [(.s [119]),(.b false),(.i .i64 8),(.i .i64 0),(.s [77,46,83]),.nil]),(.agg [(.s [116]),(.b false),(.i .i64 7),(.i .i64 3),(.s []),(.sl [(.agg [(.i .i64 2),(.i .i64 0),(.s []),.nil])])]),(.agg [(.s [118]),(.b false),(.i .i64 7),(.i .i64 4),(.s []),(.sl [(.agg [(.i .i64 2),(.i .i64 0),(.s []),.nil])])]),(.agg [(.s [97]),(.b false),(.i .i64 7),(.i .i64 3),(.s []),(.sl [(.agg [(.i .i64 1),(.i .i64 0),(.s []),.nil])])])],.osl [(.agg [(.s [102]),(.b false),(.sl [(.agg [(.s [110]),(.b false),(.i .i64 1),(.i .i64 0),(.s []),.nil])]),(.i .i64 1),(.i .i64 0),(.s []),.nil,.nil,.nil,(.sl [(.agg [(.i .i64 1),(.i .i64 1),(.i .i64 0),(.s []),.nil,(.i .i32 0),(.s [110]),.nil])])])],.d .nil,.ptr 10 0,.map 2,.map 3,.map 4,.d .nm,.d .nm,.d (.i .i64 0),.d .nil,.d .nil,.d (.b false)],.map [((.s [77,46,82]),.d (.agg [(.s [82]),(.b false),(.s []),(.sl [(.agg [(.s [120]),(.b false),(.i .i64 1),(.i .i64 0),(.s []),.nil])])])),((.s [77,46,83]),.d (.agg [(.s [83]),(.b false),(.s [77,46,82]),.nil]))],.map [((.s [77,46,82]),.d (.b true)),((.s [77,46,83]),.d (.b true))],.map [((.s [77,46,105]),.d (.agg [(.i .i64 1),(.i .i64 0),(.s []),.nil])),((.s [77,46,99]),.d (.agg [(.i .i64 2),(.i .i64 0),(.s []),.nil])),((.s [77,46,98]),.d (.agg [(.i .i64 3),(.i .i64 0),(.s []),.nil])),((.s [77,46,115]),.d (.agg [(.i .i64 4),(.i .i64 0),(.s []),.nil])),((.s [77,46,112]),.d (.agg [(.i .i64 9),(.i .i64 0),(.s [77,46,82]),.nil])),((.s [77,46,113]),.d (.agg [(.i .i64 9),(.i .i64 0),(.s [77,46,83]),.nil])),((.s [77,46,114]),.d (.agg [(.i .i64 8),(.i .i64 0),(.s [77,46,82]),.nil])),((.s [77,46,119]),.d (.agg [(.i .i64 8),(.i .i64 0),(.s [77,46,83]),.nil])),((.s [77,46,116]),.d (.agg [(.i .i64 7),(.i .i64 3),(.s []),(.sl [(.agg [(.i .i64 2),(.i .i64 0),(.s []),.nil])])])),((.s [77,46,118]),.d (.agg [(.i .i64 7),(.i .i64 4),(.s []),(.sl [(.agg [(.i .i64 2),(.i .i64 0),(.s []),.nil])])])),((.s [77,46,97]),.d (.agg [(.i .i64 7),(.i .i64 3),(.s []),(.sl [(.agg [(.i .i64 1),(.i .i64 0),(.s []),.nil])])]))],.map [((.s [77,46,102]),.d (.agg [(.s [102]),(.b false),(.sl [(.agg [(.s [110]),(.b false),(.i .i64 1),(.i .i64 0),(.s []),.nil])]),(.i .i64 1),(.i .i64 0),(.s []),.nil,.nil,.nil,.nil]))],.cells [.d (.s [77]),.map 6,.map 7,.map 8,.map 9,.d .nil],.cells [.ptr 10 0],.map [((.s [77]),.d (.b true))],.map [((.s [120]),.d (.b true))],.map [((.s [120]),.d (.b true))],.cells [.d (.s [105])],.cells [.d (.s [99])],.cells [.d (.s [98])],.cells [.d (.s [115])],.cells [.d (.s [112])],.cells [.d (.s [113])],.cells [.d (.s [114])],.cells [.d (.s [119])],.cells [.d (.s [116])],.cells [.d (.s [118])],.cells [.d (.s [97])],.map [((.s [110]),.d (.agg [(.i .i64 1),(.i .i64 0),(.s []),.nil]))],.map [((.s [110]),.d (.b false))],.cells [.d (.s [102]),.d (.b false),.osl [(.agg [(.s [110]),(.b false),(.i .i64 1),(.i .i64 0),(.s []),.nil])],.d (.i .i64 1),.d (.i .i64 0),.d (.s []),.d .nil,.d .nil,.d .nil,.osl [(.agg [(.i .i64 1),(.i .i64 1),(.i .i64 0),(.s []),.nil,(.i .i32 0),(.s [110]),.nil])]],.cells [.d (.s [110])]]
def qtY (xs:List D):List Obj:=[.map [((.s [107]),.d (.agg [(.i .i64 2),(.i .i64 0),(.i .i64 0),(.s []),.nil,(.i .i64 0),(.i .i64 1),(.i .i64 0),(.s []),.nil,(.i .i32 1),(.s []),.nil,(.s []),(.b false),.nil,(.i .i64 0),(.i .i64 0),(.s []),.nil,.nil,.nil,.nil,(.b false)]))],.cells [.d (.sl xs),.d (.i .i64 9),.d (.i .i64 0),.d (.s [77]),.d .nil,.osl [(.agg [(.s [107]),(.b false),(.i .i64 0),(.i .i64 1),(.i .i64 0),(.s []),.nil,(.i .i32 1),(.s []),.nil])],.d .nil,.d .nil,.d .nil,.d .nil,.d .nil,.d .nil,.map 2,.map 0,.d .nm,.d (.b false),.d .nil,.d (.i .i64 0)],.map [],.map []]
def qrM (xs:List D):List Obj:=[.map [((.s [107]),.d (.agg [(.i .i64 2),(.i .i64 0),(.i .i64 0),(.s []),.nil,(.i .i64 0),(.i .i64 1),(.i .i64 0),(.s []),.nil,(.i .i32 1),(.s []),.nil,(.s []),(.b false),.nil,(.i .i64 0),(.i .i64 0),(.s []),.nil,.nil,.nil,.nil,(.b false)])),((.s [82]),.d (.agg ((.i .i64 3)::(.i .i64 8)::(.i .i64 0)::(.s [77,46,82])::.nil::sfx))),((.s [83]),.d (.agg ((.i .i64 3)::(.i .i64 8)::(.i .i64 0)::(.s [77,46,83])::.nil::sfx))),((.s [105]),.d (.agg ((.i .i64 4)::(.i .i64 1)::(.i .i64 0)::(.s [])::.nil::sfx))),((.s [99]),.d (.agg ((.i .i64 4)::(.i .i64 2)::(.i .i64 0)::(.s [])::.nil::sfx))),((.s [98]),.d (.agg ((.i .i64 4)::(.i .i64 3)::(.i .i64 0)::(.s [])::.nil::sfx))),((.s [115]),.d (.agg ((.i .i64 4)::(.i .i64 4)::(.i .i64 0)::(.s [])::.nil::sfx))),((.s [112]),.d (.agg ((.i .i64 4)::(.i .i64 9)::(.i .i64 0)::(.s [77,46,82])::.nil::sfx))),((.s [113]),.d (.agg ((.i .i64 4)::(.i .i64 9)::(.i .i64 0)::(.s [77,46,83])::.nil::sfx))),((.s [114]),.d (.agg ((.i .i64 4)::(.i .i64 8)::(.i .i64 0)::(.s [77,46,82])::.nil::sfx))),((.s [119]),.d (.agg ((.i .i64 4)::(.i .i64 8)::(.i .i64 0)::(.s [77,46,83])::.nil::sfx))),((.s [116]),.d (.agg ((.i .i64 4)::(.i .i64 7)::(.i .i64 3)::(.s [])::(.sl [(.agg [(.i .i64 2),(.i .i64 0),(.s []),.nil])])::sfx))),((.s [118]),.d (.agg ((.i .i64 4)::(.i .i64 7)::(.i .i64 4)::(.s [])::(.sl [(.agg [(.i .i64 2),(.i .i64 0),(.s []),.nil])])::sfx))),((.s [97]),.d (.agg ((.i .i64 4)::(.i .i64 7)::(.i .i64 3)::(.s [])::(.sl [(.agg [(.i .i64 1),(.i .i64 0),(.s []),.nil])])::sfx)))],.cells [.d (.sl xs),.d (.i .i64 83),.d (.i .i64 0),.d (.s [77]),.d .nil,.osl [(.agg [(.s [107]),(.b false),(.i .i64 0),(.i .i64 1),(.i .i64 0),(.s []),.nil,(.i .i32 1),(.s []),.nil])],.d .nil,.osl [(.agg [(.s [82]),(.b false),(.s []),(.sl [(.agg [(.s [120]),(.b false),(.i .i64 1),(.i .i64 0),(.s []),.nil])])]),(.agg [(.s [83]),(.b false),(.s [77,46,82]),.nil])],.row 27 6 11,.d .nil,.d .nil,.d .nil,.map 2,.map 0,.d .nm,.d (.b false),.d .nil,.d (.i .i64 0)],.map [((.s [77,46,82]),.d (.agg [(.s [82]),(.b false),(.s []),(.sl [(.agg [(.s [120]),(.b false),(.i .i64 1),(.i .i64 0),(.s []),.nil])])])),((.s [77,46,83]),.d (.agg [(.s [83]),(.b false),(.s [77,46,82]),.nil]))],.map [],.map [((.s [120]),.d (.b true))],.map [((.s [120]),.d (.b true))],.row ⟨6,true⟩ [.d (.s [105]),.d (.b false),.d (.i .i64 1),.d (.i .i64 0),.d (.s []),.d .nil],.dead,.row ⟨6,true⟩ [.d (.s [99]),.d (.b false),.d (.i .i64 2),.d (.i .i64 0),.d (.s []),.d .nil],.dead,.row ⟨6,true⟩ [.d (.s [98]),.d (.b false),.d (.i .i64 3),.d (.i .i64 0),.d (.s []),.d .nil],.dead,.row ⟨6,true⟩ [.d (.s [115]),.d (.b false),.d (.i .i64 4),.d (.i .i64 0),.d (.s []),.d .nil],.dead,.row ⟨6,true⟩ [.d (.s [112]),.d (.b false),.d (.i .i64 9),.d (.i .i64 0),.d (.s [77,46,82]),.d .nil],.dead,.row ⟨6,true⟩ [.d (.s [113]),.d (.b false),.d (.i .i64 9),.d (.i .i64 0),.d (.s [77,46,83]),.d .nil],.dead,.row ⟨6,true⟩ [.d (.s [114]),.d (.b false),.d (.i .i64 8),.d (.i .i64 0),.d (.s [77,46,82]),.d .nil],.dead,.row ⟨6,true⟩ [.d (.s [119]),.d (.b false),.d (.i .i64 8),.d (.i .i64 0),.d (.s [77,46,83]),.d .nil],.dead,.row ⟨6,true⟩ [.d (.s [116]),.d (.b false),.d (.i .i64 7),.d (.i .i64 3),.d (.s []),.d (.sl [(.agg [(.i .i64 2),(.i .i64 0),(.s []),.nil])])],.dead,.row ⟨6,true⟩ [.d (.s [118]),.d (.b false),.d (.i .i64 7),.d (.i .i64 4),.d (.s []),.d (.sl [(.agg [(.i .i64 2),(.i .i64 0),(.s []),.nil])])],.dead,.row ⟨6,true⟩ [.d (.s [97]),.d (.b false),.d (.i .i64 7),.d (.i .i64 3),.d (.s []),.d (.sl [(.agg [(.i .i64 1),(.i .i64 0),(.s []),.nil])])],.row ⟨6,true⟩ [.d (.s [105]),.d (.b false),.d (.i .i64 1),.d (.i .i64 0),.d (.s []),.d .nil,.d (.s [99]),.d (.b false),.d (.i .i64 2),.d (.i .i64 0),.d (.s []),.d .nil,.d (.s [98]),.d (.b false),.d (.i .i64 3),.d (.i .i64 0),.d (.s []),.d .nil,.d (.s [115]),.d (.b false),.d (.i .i64 4),.d (.i .i64 0),.d (.s []),.d .nil,.d (.s [112]),.d (.b false),.d (.i .i64 9),.d (.i .i64 0),.d (.s [77,46,82]),.d .nil,.d (.s [113]),.d (.b false),.d (.i .i64 9),.d (.i .i64 0),.d (.s [77,46,83]),.d .nil,.d (.s [114]),.d (.b false),.d (.i .i64 8),.d (.i .i64 0),.d (.s [77,46,82]),.d .nil,.d (.s [119]),.d (.b false),.d (.i .i64 8),.d (.i .i64 0),.d (.s [77,46,83]),.d .nil,.d (.s [116]),.d (.b false),.d (.i .i64 7),.d (.i .i64 3),.d (.s []),.d (.sl [(.agg [(.i .i64 2),(.i .i64 0),(.s []),.nil])]),.d (.s [118]),.d (.b false),.d (.i .i64 7),.d (.i .i64 4),.d (.s []),.d (.sl [(.agg [(.i .i64 2),(.i .i64 0),(.s []),.nil])]),.d (.s [97]),.d (.b false),.d (.i .i64 7),.d (.i .i64 3),.d (.s []),.d (.sl [(.agg [(.i .i64 1),(.i .i64 0),(.s []),.nil])])]]
def qua (xs:List D):List Obj:=[.map [((.s [107]),.d (.agg [(.i .i64 2),(.i .i64 0),(.i .i64 0),(.s []),.nil,(.i .i64 0),(.i .i64 1),(.i .i64 0),(.s []),.nil,(.i .i32 1),(.s []),.nil,(.s []),(.b false),.nil,(.i .i64 0),(.i .i64 0),(.s []),.nil,.nil,.nil,.nil,(.b false)])),((.s [82]),.d (.agg ((.i .i64 3)::(.i .i64 8)::(.i .i64 0)::(.s [77,46,82])::.nil::sfx))),((.s [83]),.d (.agg ((.i .i64 3)::(.i .i64 8)::(.i .i64 0)::(.s [77,46,83])::.nil::sfx))),((.s [105]),.d (.agg ((.i .i64 4)::(.i .i64 1)::(.i .i64 0)::(.s [])::.nil::sfx))),((.s [99]),.d (.agg ((.i .i64 4)::(.i .i64 2)::(.i .i64 0)::(.s [])::.nil::sfx))),((.s [98]),.d (.agg ((.i .i64 4)::(.i .i64 3)::(.i .i64 0)::(.s [])::.nil::sfx))),((.s [115]),.d (.agg ((.i .i64 4)::(.i .i64 4)::(.i .i64 0)::(.s [])::.nil::sfx))),((.s [112]),.d (.agg ((.i .i64 4)::(.i .i64 9)::(.i .i64 0)::(.s [77,46,82])::.nil::sfx))),((.s [113]),.d (.agg ((.i .i64 4)::(.i .i64 9)::(.i .i64 0)::(.s [77,46,83])::.nil::sfx))),((.s [114]),.d (.agg ((.i .i64 4)::(.i .i64 8)::(.i .i64 0)::(.s [77,46,82])::.nil::sfx))),((.s [119]),.d (.agg ((.i .i64 4)::(.i .i64 8)::(.i .i64 0)::(.s [77,46,83])::.nil::sfx))),((.s [116]),.d (.agg ((.i .i64 4)::(.i .i64 7)::(.i .i64 3)::(.s [])::(.sl [(.agg [(.i .i64 2),(.i .i64 0),(.s []),.nil])])::sfx))),((.s [118]),.d (.agg ((.i .i64 4)::(.i .i64 7)::(.i .i64 4)::(.s [])::(.sl [(.agg [(.i .i64 2),(.i .i64 0),(.s []),.nil])])::sfx))),((.s [97]),.d (.agg ((.i .i64 4)::(.i .i64 7)::(.i .i64 3)::(.s [])::(.sl [(.agg [(.i .i64 1),(.i .i64 0),(.s []),.nil])])::sfx))),((.s [102]),.d (.agg [(.i .i64 5),(.i .i64 0),(.i .i64 0),(.s []),.nil,(.i .i64 0),(.i .i64 0),(.i .i64 0),(.s []),.nil,(.i .i32 0),(.s []),.nil,(.s [102]),(.b false),(.sl [(.agg [(.s [110]),(.b false),(.i .i64 1),(.i .i64 0),(.s []),.nil])]),(.i .i64 1),(.i .i64 0),(.s []),.nil,.nil,.nil,.nil,(.b false)]))],.cells [.d (.sl xs),.d (.i .i64 98),.d (.i .i64 0),.d (.s [77]),.d .nil,.osl [(.agg [(.s [107]),(.b false),(.i .i64 0),(.i .i64 1),(.i .i64 0),(.s []),.nil,(.i .i32 1),(.s []),.nil])],.d .nil,.osl [(.agg [(.s [82]),(.b false),(.s []),(.sl [(.agg [(.s [120]),(.b false),(.i .i64 1),(.i .i64 0),(.s []),.nil])])]),(.agg [(.s [83]),(.b false),(.s [77,46,82]),.nil])],.row 27 6 11,.osl [(.agg [(.s [102]),(.b false),(.sl [(.agg [(.s [110]),(.b false),(.i .i64 1),(.i .i64 0),(.s []),.nil])]),(.i .i64 1),(.i .i64 0),(.s []),.nil,.nil,.nil,(.sl [(.agg [(.i .i64 1),(.i .i64 1),(.i .i64 0),(.s []),.nil,(.i .i32 0),(.s [110]),.nil])])])],.d .nil,.d .nil,.map 2,.map 0,.d .nm,.d (.b false),.d .nil,.d (.i .i64 0)],.map [((.s [77,46,82]),.d (.agg [(.s [82]),(.b false),(.s []),(.sl [(.agg [(.s [120]),(.b false),(.i .i64 1),(.i .i64 0),(.s []),.nil])])])),((.s [77,46,83]),.d (.agg [(.s [83]),(.b false),(.s [77,46,82]),.nil]))],.map [],.map [((.s [120]),.d (.b true))],.map [((.s [120]),.d (.b true))],.row ⟨6,true⟩ [.d (.s [105]),.d (.b false),.d (.i .i64 1),.d (.i .i64 0),.d (.s []),.d .nil],.dead,.row ⟨6,true⟩ [.d (.s [99]),.d (.b false),.d (.i .i64 2),.d (.i .i64 0),.d (.s []),.d .nil],.dead,.row ⟨6,true⟩ [.d (.s [98]),.d (.b false),.d (.i .i64 3),.d (.i .i64 0),.d (.s []),.d .nil],.dead,.row ⟨6,true⟩ [.d (.s [115]),.d (.b false),.d (.i .i64 4),.d (.i .i64 0),.d (.s []),.d .nil],.dead,.row ⟨6,true⟩ [.d (.s [112]),.d (.b false),.d (.i .i64 9),.d (.i .i64 0),.d (.s [77,46,82]),.d .nil],.dead,.row ⟨6,true⟩ [.d (.s [113]),.d (.b false),.d (.i .i64 9),.d (.i .i64 0),.d (.s [77,46,83]),.d .nil],.dead,.row ⟨6,true⟩ [.d (.s [114]),.d (.b false),.d (.i .i64 8),.d (.i .i64 0),.d (.s [77,46,82]),.d .nil],.dead,.row ⟨6,true⟩ [.d (.s [119]),.d (.b false),.d (.i .i64 8),.d (.i .i64 0),.d (.s [77,46,83]),.d .nil],.dead,.row ⟨6,true⟩ [.d (.s [116]),.d (.b false),.d (.i .i64 7),.d (.i .i64 3),.d (.s []),.d (.sl [(.agg [(.i .i64 2),(.i .i64 0),(.s []),.nil])])],.dead,.row ⟨6,true⟩ [.d (.s [118]),.d (.b false),.d (.i .i64 7),.d (.i .i64 4),.d (.s []),.d (.sl [(.agg [(.i .i64 2),(.i .i64 0),(.s []),.nil])])],.dead,.row ⟨6,true⟩ [.d (.s [97]),.d (.b false),.d (.i .i64 7),.d (.i .i64 3),.d (.s []),.d (.sl [(.agg [(.i .i64 1),(.i .i64 0),(.s []),.nil])])],.row ⟨6,true⟩ [.d (.s [105]),.d (.b false),.d (.i .i64 1),.d (.i .i64 0),.d (.s []),.d .nil,.d (.s [99]),.d (.b false),.d (.i .i64 2),.d (.i .i64 0),.d (.s []),.d .nil,.d (.s [98]),.d (.b false),.d (.i .i64 3),.d (.i .i64 0),.d (.s []),.d .nil,.d (.s [115]),.d (.b false),.d (.i .i64 4),.d (.i .i64 0),.d (.s []),.d .nil,.d (.s [112]),.d (.b false),.d (.i .i64 9),.d (.i .i64 0),.d (.s [77,46,82]),.d .nil,.d (.s [113]),.d (.b false),.d (.i .i64 9),.d (.i .i64 0),.d (.s [77,46,83]),.d .nil,.d (.s [114]),.d (.b false),.d (.i .i64 8),.d (.i .i64 0),.d (.s [77,46,82]),.d .nil,.d (.s [119]),.d (.b false),.d (.i .i64 8),.d (.i .i64 0),.d (.s [77,46,83]),.d .nil,.d (.s [116]),.d (.b false),.d (.i .i64 7),.d (.i .i64 3),.d (.s []),.d (.sl [(.agg [(.i .i64 2),(.i .i64 0),(.s []),.nil])]),.d (.s [118]),.d (.b false),.d (.i .i64 7),.d (.i .i64 4),.d (.s []),.d (.sl [(.agg [(.i .i64 2),(.i .i64 0),(.s []),.nil])]),.d (.s [97]),.d (.b false),.d (.i .i64 7),.d (.i .i64 3),.d (.s []),.d (.sl [(.agg [(.i .i64 1),(.i .i64 0),(.s []),.nil])])],.cells [.d (.s [102]),.d (.b false),.osl [(.agg [(.s [110]),(.b false),(.i .i64 1),(.i .i64 0),(.s []),.nil])],.d (.i .i64 1),.d (.i .i64 0),.d (.s []),.d .nil,.d .nil,.d .nil,.osl [(.agg [(.i .i64 1),(.i .i64 1),(.i .i64 0),(.s []),.nil,(.i .i32 0),(.s [110]),.nil])]],.map [((.s [110]),.d (.agg ((.i .i64 6)::(.i .i64 1)::(.i .i64 0)::(.s [])::.nil::sfx)))]]
def qtz:List D->List Obj:=qrM
def eqV:V->V->Bool
 | .d x,.d y=>eqD x y
 | .osl x,.osl y=>quj x y
 | .row a b c,.row a' b' c'=>qOC a a' && (qOC b b' && qOC c c')
 | .ptr a b,.ptr a' b'=>qOC a a' && qOC b b'
 | .map a,.map b=>qOC a b
 | _,_=>false
theorem qxE:∀{x y:V},eqV x y=true->x=y
 | .d x,y,h=>by cases y<;>simp only [eqV] at h<;>first|cases h|rw [qm8 h]
 | .osl x,y,h=>by cases y<;>simp only [eqV] at h<;>first|cases h|rw [qpV h]
 | .row a b c,y,h=>by
  cases y<;>simp only [eqV,qOy,Nat.beq_eq] at h<;>first|cases h;done|obtain ⟨rfl,rfl,rfl⟩:=h;rfl
 | .ptr a b,y,h=>by
  cases y<;>simp only [eqV,qOy,Nat.beq_eq] at h<;>first|cases h;done|obtain ⟨rfl,rfl⟩:=h;rfl
 | .map a,y,h=>by
  cases y<;>simp only [eqV,Nat.beq_eq] at h<;>first|cases h;done|subst h;rfl
 | .fsl _,_,h | .lp _ _,_,h | .box _,_,h | .cp _,_,h | .rs _ _ _ _,_,h | .fn _ _ _,_,h | .ifc _ _,_,h | .agg _,_,h | .tup _,_,h | .undef,_,h=>by simp only [eqV] at h;cases h
def qqt {α:Type} (f:α->α->Bool):List α->List α->Bool
 | [],[]=>true
 | x::l,y::r=>f x y && qqt f l r
 | _,_=>false
theorem qla {α:Type} {f:α->α->Bool} (hf:∀x y,f x y=true->x=y):∀{l r:List α},qqt f l r=true->l=r
 | [],[],_=>rfl
 | x::l,y::r,h=>by
  simp only [qqt,qOy] at h
  rw [hf _ _ h.1,qla hf h.2]
 | [],_::_,h=>by cases h
 | _::_,[],h=>by cases h
def qxw:Obj->Obj->Bool
 | .cells a,.cells b=>qqt eqV a b
 | .map a,.map b=>qqt (fun p q=>eqD p.1 q.1 && eqV p.2 q.2) a b
 | .row l a,.row m b=>qOC l.n m.n && (l.agg == m.agg && qqt eqV a b)
 | .dead,.dead=>true
 | _,_=>false
theorem qDT:∀x y,qxw x y=true->x=y
 | .cells a,y,h=>by cases y<;>simp only [qxw] at h<;>first|cases h;done|rw [qla (fun _ _=>qxE) h]
 | .map a,y,h=>by
  cases y<;>simp only [qxw] at h<;>first|cases h;done|rw [qla (fun p q h=>by
   simp only [qOy] at h
   exact Prod.ext (qm8 h.1) (qxE h.2)) h]
 | .row l a,y,h=>by
  cases y<;>simp only [qxw,qOy,Nat.beq_eq,beq_iff_eq] at h<;>first|cases h;done|skip
  rename_i m b
  obtain ⟨h1,h2,h3⟩:=h
  cases l;cases m
  simp only at h1 h2
  subst h1;subst h2
  rw [qla (fun _ _=>qxE) h3]
 | .dead,y,h=>by cases y<;>simp only [qxw] at h<;>first|cases h;done|rfl
 | .iter _,_,h=>by simp only [qxw] at h;cases h
def behind:List D->List D->Option Nat
 | [],[]=>some 0
 | [],.agg _::l=>(behind [] l).map (· + 1)
 | x::p,y::l=>bif eqD x y then behind p l else none
 | _,_=>none
theorem qk7:∀{p l:List D} {n:Nat},behind p l=some n->∃c:List (List D),c.length=n/\l=p++c.map .agg
 | [],[],n,h=>⟨[],by cases h;exact ⟨rfl,rfl⟩⟩
 | [],.agg c::l,n,h=>by
  simp only [behind,Option.map_eq_some_iff] at h
  obtain ⟨m,h1,rfl⟩:=h
  obtain ⟨cs,rfl,rfl⟩:=qk7 h1
  exact ⟨c::cs,rfl,rfl⟩
 | x::p,y::l,n,h=>by
  simp only [behind,qOx] at h
  split at h
  ·rename_i hb
   obtain ⟨cs,h1,h2⟩:=qk7 h
   exact ⟨cs,h1,by rw [qm8 hb,h2];rfl⟩
  ·cases h
 | _::_,[],_,h=>by cases h
 | [],.b _::_,_,h | [],.i _ _::_,_,h | [],.s _::_,_,h | [],.nil::_,_,h | [],.sl _::_,_,h | [],.np::_,_,h | [],.nf::_,_,h | [],.ni::_,_,h | [],.nm::_,_,h=>by simp only [behind] at h;cases h
def qtC (k:Nat) (H:List Obj):List D:=match H[k]? with
 | some (.cells (.d (.sl xs)::_))=>xs
 | _=>[]
def fit:Option Nat->Bool
 | some n=>Nat.ble 7 n && Nat.ble n 13
 | none=>false
theorem qBL:∀{o:Option Nat},fit o=true->∃n,o=some n/\7<=n/\n<=13
 | some n,h=>by
  simp only [fit,qOy] at h
  exact ⟨n,rfl,qOH h.1,qOH h.2⟩
 | none,h=>by cases h
def qlP (k:Nat) (hi ho:List D->List Obj) (lo:Nat) (vs:List V) (H:List Obj):Option Cr:=
 match vs with
 | [.ptr j 0]=>bif qOC j k && fit (behind hdT (qtC k H)) && qqt qxw H (hi (qtC k H)) then some ⟨false,false,.tup [],ho (qtC k H),lo⟩ else none
 | _=>none
theorem qxK {k:Nat} {hi ho:List D->List Obj} {lo:Nat} {vs:List V} {H:List Obj} {r:Cr} (h:qlP k hi ho lo vs H=some r) :
  ∃c:List (List D),7<=c.length/\c.length<=13/\vs=[.ptr k 0]/\H=hi (hdT++c.map .agg)/\r=⟨false,false,.tup [],ho (hdT++c.map .agg),lo⟩:=by
 unfold qlP at h
 split at h
 ·rename_i j
  rw [qOx] at h
  split at h
  ·rename_i hb
   cases h
   simp only [qOy,Nat.beq_eq] at hb
   obtain ⟨⟨rfl,h2⟩,h3⟩:=hb
   generalize qtC j H=xs at h2 h3
   obtain ⟨n,hn,h5,h6⟩:=qBL h2
   obtain ⟨c,rfl,rfl⟩:=qk7 hn
   exact ⟨c,h5,h6,rfl,qla qDT h3,rfl⟩
  ·cases h
 ·cases h
def kv (k f:Nat) (hi ho:List D->List Obj) (lo:Nat) (m:Nat):Prop:=∀c:List (List D),c.length=m->ji pg1 1000 f [.ptr k 0] (hi (hdT++c.map .agg))=some ⟨false,false,.tup [],ho (hdT++c.map .agg),lo⟩
theorem qon {k f:Nat} {hi ho:List D->List Obj} {lo:Nat} (hm:∀m,7<=m->m<=13->kv k f hi ho lo m) {vs:List V} {H:List Obj} {r:Cr} (h:qlP k hi ho lo vs H=some r):qh pg1 f vs H=some r:=by
 obtain ⟨c,h1,h2,rfl,rfl,rfl⟩:=qxK h
 exact qde pg1 1000 _ _ _ _ (hm _ h1 h2 c rfl)
end W
