/-
  PlayEchoes, part 38.
-/
import Derived.Test.YtdimnhbfkogllaaGreatDoorX36
import Derived.Test.YtdimnhbfkogllaaGreatDoorX37
set_option linter.unusedSimpArgs false
set_option linter.unusedVariables false
/- What stands in for a port's functions is what they do. -/
namespace Go.Proofs.YtdimnhbfkogllaaGreatDoor
open W
set_option maxRecDepth 100000
theorem qFW {M:Maps} {g:Gh} {w:World} {n:Nat} {H:List W.Obj} (h1:1<=n) (h2:n<=4096) (hH:RelH M g w H) :
  W.qsp Tryz.prog 9 #[.int .i64 n] w (qu M g w ⟨false,false,.ptr H.length 0,H++[.port n []],H.length⟩):=by
 refine yx ⟨Calls.mono (qF2 n h1 h2 w) fun e w' he=>?_,?_⟩
 ·obtain ⟨rfl,rfl⟩:=he
  obtain ⟨g',k1,k2,k3,k4⟩:=hH.port n 54
  refine ⟨rfl,g',k1,k2,.s ?_⟩
  rw [<- k4]
  exact .ptr _ 0 k3
 ·simp [callFunc,Tryz.func9,Tryz.f9]
theorem qBD {M:Maps} {g:Gh} {w:World} {id:Nat} {c:Int} {cap:Nat} {buf:List Int} {H:List W.Obj} {r:Cr} (ho:H[id]?=some (.port cap buf)) (hid:id<g.n)
  (h:(bif Nat.blt buf.length cap then some (⟨false,false,.d (.b true),qq H id (.port cap (buf++[c])),id⟩:Cr) else some ⟨false,true,.d (.b false),H,H.length⟩)=some r) (hH:RelH M g w H) :
  W.qsp Tryz.prog 19 #[.pointer (some ⟨g.φ id,0,none⟩),.int .u8 c] w (qu M g w r):=by
 cases hH.h id _ ho with
 | port _ _ ch T sn rn tm hb hob hp hc hoc=>
  have hrun:(callFunc 19 #[.pointer (some ⟨g.φ id,0,none⟩),.int .u8 c]).run Tryz.prog w=.ok (.enter 19 #[.pointer (some ⟨g.φ id,0,none⟩),.int .u8 c]) w:=by simp [callFunc,Tryz.func19,Tryz.f19]
  by_cases hl:buf.length<cap
  ·have a:Nat.blt buf.length cap=true:=by simpa [Nat.blt_eq] using hl
   rw [a] at h
   cases h
   refine yx ⟨Calls.mono (qoQ _ _ _ _ _ _ _ w hb (.int .u8 c) _ hc (by simpa using hl)) fun e w' he=>?_,hrun⟩
   obtain ⟨rfl,rfl⟩:=he
   obtain ⟨k1,k2⟩:=hH.chan (cap':=cap) (buf':=buf++[c]) (sn':=sn+1) (rn':=rn) (tm':=tm) hid hb hob hp hc hoc (q':=(buf.map (Value.int .u8)).toArray.push (.int .u8 c)) (by simp)
   exact ⟨rfl,g,k1,k2,.s (.d _ _ (.b true))⟩
  ·have a:Nat.blt buf.length cap=false:=by rw [Bool.eq_false_iff];intro e;rw [Nat.blt_eq] at e;omega
   rw [a] at h
   cases h
   refine yx ⟨Calls.mono (qpn _ _ _ _ _ _ _ w hb (.int .u8 c) _ hc (by simpa using hl)) fun e w' he=>?_,hrun⟩
   obtain ⟨rfl,rfl⟩:=he
   exact ⟨rfl,g,hH,Evo.refl g _,.s (.d _ _ (.b false))⟩
theorem qwU {M:Maps} {g:Gh} {w:World} {id:Nat} {cap:Nat} {buf:List Int} {H:List W.Obj} {r:Cr} (ho:H[id]?=some (.port cap buf)) (hid:id<g.n)
  (h:(match buf with | []=>some (⟨false,true,.tup [.d (.i .u8 0),.d (.b false)],H,H.length⟩:Cr)|c::l=>some ⟨false,false,.tup [.d (.i .u8 c),.d (.b true)],qq H id (.port cap l),id⟩)=some r) (hH:RelH M g w H) :
  W.qsp Tryz.prog 11 #[.pointer (some ⟨g.φ id,0,none⟩)] w (qu M g w r):=by
 cases hH.h id _ ho with
 | port _ _ ch T sn rn tm hb hob hp hc hoc=>
  have hrun:(callFunc 11 #[.pointer (some ⟨g.φ id,0,none⟩)]).run Tryz.prog w=.ok (.enter 11 #[.pointer (some ⟨g.φ id,0,none⟩)]) w:=by simp [callFunc,Tryz.func11,Tryz.f11]
  cases buf with
  | nil=>
   cases h
   refine yx ⟨Calls.mono (qrk _ _ _ _ _ _ _ w hb hc) fun e w' he=>?_,hrun⟩
   obtain ⟨rfl,rfl⟩:=he
   exact ⟨rfl,g,hH,Evo.refl g _,.s (.tup _ _ (.cons _ _ _ _ (.d _ _ (.i _ _)) (.cons _ _ _ _ (.d _ _ (.b false)) .nil)))⟩
  | cons c l=>
   cases h
   refine yx ⟨Calls.mono (qrR _ _ _ _ _ _ _ w hb (.int .u8 c) (l.map (Value.int .u8)) hc) fun e w' he=>?_,hrun⟩
   obtain ⟨rfl,rfl⟩:=he
   obtain ⟨k1,k2⟩:=hH.chan (cap':=cap) (buf':=l) (sn':=sn) (rn':=rn+1) (tm':=tm) hid hb hob hp hc hoc (q':=(l.map (Value.int .u8)).toArray) rfl
   exact ⟨rfl,g,k1,k2,.s (.tup _ _ (.cons _ _ _ _ (.d _ _ (.i _ _)) (.cons _ _ _ _ (.d _ _ (.b true)) .nil)))⟩
theorem qHp {M:Maps} {f:Nat} {g:Gh} {w:World} {vs:List V} {H:List W.Obj} {r:Cr} (h:qe6 f vs H=some r) {argv:List Value} (ha:ArgsRep M g w 0 vs argv) (hH:RelH M g w H):W.qsp Tryz.prog f argv.toArray w (qu M g w r):=by
 unfold qe6 at h
 simp only [Bool.cond_eq_ite] at h
 split at h
 ·rename_i n
  split at h
  ·rename_i hb
   have e2:f=9:=by simpa using hb
   subst e2
   split at h
   ·rename_i hn
    cases h
    simp only [Bool.and_eq_true] at hn
    cases ha with
    | cons h0 ha=>cases ha;cases h0 with
     | s h0=>cases h0 with
      | d _ _ h0=>cases h0 with
       | i k m=>exact qFW (Nat.le_of_ble_eq_true hn.1) (Nat.le_of_ble_eq_true hn.2) hH
   ·cases h
  ·cases h
 ·rename_i id c
  split at h
  ·rename_i hb
   have e2:f=19:=by simpa using hb
   subst e2
   split at h
   ·rename_i cap buf ho
    cases ha with
    | cons h0 ha=>cases ha with
     | cons h1 ha=>cases ha;cases h0 with
      | s h0=>cases h0 with
       | ptr _ _ hid=>cases h1 with
        | s h1=>cases h1 with
         | d _ _ h1=>cases h1 with
          | i k m=>exact qBD ho hid (by rw [Bool.cond_eq_ite];exact h) hH
   ·cases h
  ·cases h
 ·rename_i id
  split at h
  ·rename_i hb
   have e2:f=11:=by simpa using hb
   subst e2
   cases ha with
   | cons h0 ha=>cases ha;cases h0 with
    | s h0=>cases h0 with
     | ptr _ _ hid=>
      split at h
      ·rename_i cap ho;exact qwU ho hid h hH
      ·rename_i cap c l ho;exact qwU ho hid h hH
      ·cases h
  ·cases h
 ·cases h
end Go.Proofs.YtdimnhbfkogllaaGreatDoor
