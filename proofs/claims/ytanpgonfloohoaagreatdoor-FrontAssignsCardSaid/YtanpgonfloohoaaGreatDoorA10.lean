/-
  FrontAssigns, part 10.
-/
import GoSem.ClaimFollow
import GoSem.ClaimDataLaid
import GoSem.ClaimSevenParts
import Derived.KernelRfl
import Derived.Test.YtanpgonfloohoaaGreatDoorA7
/- The functions that a call can come to, by a table of what each leads to, and by numbers' bits. -/
namespace Go
def Program.lead (P:Program) (f:FuncId):List FuncId:=(P.funcs[f]?).elim [] P.leadsTo
noncomputable def qwU {α:Type} (d:α) (l:List α):Nat->α:=List.rec (motive:=fun _=>Nat->α) (fun _=>d) (fun x _ ih n=>Nat.rec (motive:=fun _=>α) x (fun m _=>ih m) n) l
theorem qs5 {α:Type} (d:α):∀(l:List α) (n:Nat),qwU d l n=l.getD n d
 | [],n=>by simp [qwU]
 | x::l,0=>rfl
 | x::l,n+1=>by
  show qwU d l n=_
  rw [qs5 d l n];simp
noncomputable def qwC (T:List (List (List Nat))) (f:Nat):List Nat:=qwU [] (qwU [] T (Nat.div f 32)) (Nat.mod f 32)
noncomputable def apL (a b:List Nat):List Nat:=List.rec (motive:=fun _=>List Nat) b (fun x _ ih=>x::ih) a
theorem qJh (a b:List Nat):apL a b=a++b:=by
 induction a with
 | nil=>rfl
 | cons x a ih=>show x::apL a b=_;rw [ih];rfl
noncomputable def qCm (T:List (List (List Nat))) (n:Nat):List Nat->Nat->List Nat->List Nat:=Nat.rec (motive:=fun _=>List Nat->Nat->List Nat->List Nat) (fun _ _ s=>s) (fun _ ih t b s=>List.rec (motive:=fun _=>List Nat) s (fun f t _=>Bool.rec (motive:=fun _=>List Nat) (ih t b s) (ih (apL (qwC T f) t) (Nat.lor b (Nat.pow 2 f)) (f::s)) (Nat.beq (Nat.mod (Nat.shiftRight b f) 2) 0)) t) n
theorem qM3 {b f:Nat}:Nat.beq (Nat.mod (Nat.shiftRight b f) 2) 0=!Nat.testBit b f:=by
 have e:Nat.mod (Nat.shiftRight b f) 2=(b >>> f) % 2:=rfl
 rw [e,Nat.testBit_eq_decide_div_mod_eq,Nat.shiftRight_eq_div_pow]
 rcases Nat.mod_two_eq_zero_or_one (b / 2 ^ f) with h|h<;>rw [h]<;>rfl
theorem qug {P:Program} {T:List (List (List Nat))} (hT:∀f,P.lead f=qwC T f):∀(n:Nat) (t:List Nat) (b:Nat) (s:List Nat),(∀x,Nat.testBit b x=s.contains x)->P.closureVia n t s=(qCm T n t b s).reverse
 | 0,t,b,s,_=>by rw [Program.closureVia];rfl
 | n+1,[],b,s,_=>by rw [Program.closureVia];rfl;simp
 | n+1,f::t,b,s,hb=>by
  rw [Program.closureVia]
  have e:qCm T (n+1) (f::t) b s=Bool.rec (motive:=fun _=>List Nat) (qCm T n t b s) (qCm T n (apL (qwC T f) t) (Nat.lor b (Nat.pow 2 f)) (f::s)) (Nat.beq (Nat.mod (Nat.shiftRight b f) 2) 0):=rfl
  rw [e,qM3,hb f,qJh]
  cases hc:s.contains f with
  | true=>
   rw [if_pos rfl]
   exact qug hT n t b s hb
  | false=>
   rw [if_neg (by simp)]
   have h:=hT f
   unfold Program.lead at h
   rw [h]
   refine qug hT n _ _ _ fun x=>?_
   have e2:Nat.lor b (Nat.pow 2 f)=b ||| 2 ^ f:=rfl
   rw [e2,Nat.testBit_or,hb x,Nat.testBit_two_pow,List.contains_cons]
   rw [Bool.or_comm]
   congr 1
   by_cases h:f=x
   ·simp [h]
   ·simp [h,Ne.symm h]
theorem qvw {P:Program} {T:List (List (List Nat))} {N f:Nat} (hT:∀f,P.lead f=qwC T f) (hN:(P.funcs.toList.map fun g=>(P.leadsTo g).length+1).sum=N):P.closure f=(qCm T (1+N) [f] 0 []).reverse:=by
 unfold Program.closure
 rw [hN]
 exact qug hT _ _ _ _ fun x=>by simp
theorem qCe {P:Program} {T:List (List (List Nat))} (hT:∀k,k<T.length->(List.range' (32 * k) 32).map P.lead=qwU [] T k) (hs:P.funcs.size<=32 * T.length) (f:Nat):P.lead f=qwC T f:=by
 have e1:Nat.div f 32=f / 32:=rfl
 have e2:Nat.mod f 32=f % 32:=rfl
 unfold qwC
 rw [e1,e2]
 by_cases h:f / 32<T.length
 ·rw [<- hT _ h,qs5,List.getD_eq_getElem?_getD,List.getElem?_map,List.getElem?_range' (by omega)]
  have e3:32 * (f / 32)+1 * (f % 32)=f:=by omega
  rw [e3];rfl
 ·have:P.funcs[f]?=none:=Array.getElem?_eq_none (by omega)
  have h0:qwU [] T (f / 32)=[]:=by rw [qs5,List.getD_eq_getElem?_getD,List.getElem?_eq_none (by omega)];rfl
  unfold Program.lead
  rw [this,h0];rfl
theorem qqp {P:Program} {f:Nat} (h:P.unfollowed f=true):P.recurses f=true:=by
 unfold Program.recurses
 rw [h,Bool.true_or]
theorem qrW {P:Program} {n K:Nat} (hn:P.types.size=n) (hK:n<=64 * K) (h:∀k,k<K->(List.range' (64 * k) 64).all (fun t=>decide (n<=t) || rowFine P t)=true) (hg:P.globals.all (fun g=>decide (g.type<P.types.size))=true) (hf:P.funcs.all (fun f=>f.params.all fun t=>decide (t<P.types.size))=true):laidOutB P=true:=by
 unfold laidOutB
 rw [hg,hf,Bool.and_true,Bool.and_true,List.all_eq_true]
 intro t ht
 have ht:t<n:=by rw [<- hn];simpa using ht
 have h1:=List.all_eq_true.1 (h (t / 64) (by omega)) t (by rw [List.mem_range'];exact ⟨t % 64,by omega,by omega⟩)
 rw [Bool.or_eq_true] at h1
 rcases h1 with h1|h1
 ·have:=of_decide_eq_true h1;omega
 ·exact h1
theorem qCp {P:Program} {g:Nat} {fn:Func} (hg:P.funcs[g]?=some fn) (h:(match fn.body with|some c=>c.looks P|none=>false)=true):P.looks []=true:=by
 unfold Program.looks
 rw [List.any_eq_true]
 refine ⟨g,?_,?_⟩
 ·have:=(Array.getElem?_eq_some_iff.1 hg).1
  simpa using this
 ·rw [hg]
  simp only [List.contains_nil,Bool.not_false,Bool.true_and,Option.any_some]
  exact h
end Go
