/-
  PlayEchoes, part 37.
-/
import Derived.Test.YtdimnhbfkogllaaGreatDoorProg
import Derived.Conc.LoneSelect
import Derived.KernelRfl
import Derived.Laws.Rows
import Derived.Laws.Tables
set_option linter.unusedSimpArgs false
set_option linter.unusedVariables false
/- What the three functions of a port do, step by step. -/
namespace Go.Proofs.YtdimnhbfkogllaaGreatDoor
open Go.Conc Go.RowKit
set_option maxRecDepth 100000
theorem qrk (b c cap s r:Nat) (tm:Bool) (T:TypeId) (w:World) (hb:w.heap[b]?=some (.cells #[.chan (some c),.bool false] T (0,0))) (hc:w.heap[c]?=some (.chan cap #[] false s r tm)) :
  Calls Tryz.prog 11 #[.pointer (some ⟨b,0,none⟩)] w fun e w'=>e=.returned (.tuple #[.int .u8 0,.bool false])/\w'=w:=by
 refine calls_of_loneTo fun cs=>?_
 have e:Frame.enter Tryz.prog 11 #[.pointer (some ⟨b,0,none⟩)] .normal=(base 11).at ⟨#[.pointer (some ⟨b,0,none⟩),undef,undef,undef,undef,undef,undef,undef,undef,undef,undef,undef,undef,undef],[]⟩ [.code (Tryz.f11.body.getD .skip)]:=by
  simp [Frame.enter,Frame.at,Tryz.func11,base,Tryz.f11]
 rw [e]
 have h0:w.cell? ⟨b,0,none⟩=some (.chan (some c)):=by simp [World.cell?,hb]
 have h1:w.cell? ⟨b,1,none⟩=some (.bool false):=by simp [World.cell?,hb]
 refine LoneTo.goes (n:=14) ?_
 simp only [Tryz.f11,Option.getD_some]
 s_c stepG_seq
 s_reg
 s_op
 s_op
 s_c stepG_region_end
 s_c stepG_seq
 s_reg
 s_op
 s_op
 s_op
 s_op
 s_c stepG_region_end
 s_c stepG_seq
 s_reg
 s_stop
 refine LoneTo.step (step_lone_select_default (c:=c) (z:=.int .u8 0) (cap:=cap) (s:=s) (r:=r) (tm:=tm) (stepG_comm (cases:=#[rcase c (.int .u8 0)]) (blocking:=false) (shape:=.select) (w':=w) rfl rfl (by decide) (by simp [go_sem,execOp,rcase,Act.eval])) hc) ?_
 rw [Frame.finish_at]
 walk_nrm
 refine LoneTo.goes (n:=11) ?_
 s_op
 s_op
 s_c stepG_region_end
 s_c stepG_block
 s_cond false
 s_c stepG_seq
 s_reg
 s_op
 s_op
 s_c stepG_region_end
 s_c stepG_ret'
 s_stop
 exact LoneTo.done ⟨.returned (.tuple #[.int .u8 0,.bool false]),_,rfl,⟨rfl,rfl⟩,rfl,rfl,rfl,rfl,_,Tryz.func11,by simp [results,Tryz.f11,Frame.at]⟩
theorem qrR (b c cap s r:Nat) (tm:Bool) (T:TypeId) (w:World) (hb:w.heap[b]?=some (.cells #[.chan (some c),.bool false] T (0,0))) (v:Value) (l:List Value) (hc:w.heap[c]?=some (.chan cap (v::l).toArray false s r tm)) :
  Calls Tryz.prog 11 #[.pointer (some ⟨b,0,none⟩)] w fun e w'=>e=.returned (.tuple #[v,.bool true])/\w'=w.setChan c cap l.toArray false s (r+1) tm:=by
 refine calls_of_loneTo fun cs=>?_
 have e:Frame.enter Tryz.prog 11 #[.pointer (some ⟨b,0,none⟩)] .normal=(base 11).at ⟨#[.pointer (some ⟨b,0,none⟩),undef,undef,undef,undef,undef,undef,undef,undef,undef,undef,undef,undef,undef],[]⟩ [.code (Tryz.f11.body.getD .skip)]:=by
  simp [Frame.enter,Frame.at,Tryz.func11,base,Tryz.f11]
 rw [e]
 have h0:w.cell? ⟨b,0,none⟩=some (.chan (some c)):=by simp [World.cell?,hb]
 have h1:w.cell? ⟨b,1,none⟩=some (.bool false):=by simp [World.cell?,hb]
 refine LoneTo.goes (n:=14) ?_
 simp only [Tryz.f11,Option.getD_some]
 s_c stepG_seq
 s_reg
 s_op
 s_op
 s_c stepG_region_end
 s_c stepG_seq
 s_reg
 s_op
 s_op
 s_op
 s_op
 s_c stepG_region_end
 s_c stepG_seq
 s_reg
 s_stop
 refine LoneTo.step (step_lone_select_recv_buf (c:=c) (z:=.int .u8 0) (cap:=cap) (buf:=(v::l).toArray) (closed:=false) (s:=s) (r:=r) (tm:=tm) (stepG_comm (cases:=#[rcase c (.int .u8 0)]) (blocking:=false) (shape:=.select) (w':=w) rfl rfl (by decide) (by simp [go_sem,execOp,rcase,Act.eval])) hc (by simp)) ?_
 have ev:(v::l).toArray.getD 0 undef=v:=by simp
 have el:(v::l).toArray.extract 1 (v::l).toArray.size=l.toArray:=by simp
 rw [Frame.finish_at,ev,el]
 walk_nrm
 refine LoneTo.goes (n:=17) ?_
 s_op
 s_op
 s_c stepG_region_end
 s_c stepG_block
 s_cond true
 s_c stepG_seq
 s_reg
 s_op
 s_op
 s_c stepG_region_end
 s_c stepG_seq
 s_reg
 s_op
 s_op
 s_op
 s_c stepG_region_end
 s_c stepG_ret'
 s_stop
 exact LoneTo.done ⟨.returned (.tuple #[v,.bool true]),_,rfl,⟨rfl,rfl⟩,rfl,rfl,rfl,rfl,_,Tryz.func11,by simp [results,Tryz.f11,Frame.at]⟩
theorem qpn (b c cap s r:Nat) (tm:Bool) (T:TypeId) (w:World) (hb:w.heap[b]?=some (.cells #[.chan (some c),.bool false] T (0,0))) (x:Value) (buf:Array Value) (hc:w.heap[c]?=some (.chan cap buf false s r tm)) (hf:cap<=buf.size) :
  Calls Tryz.prog 19 #[.pointer (some ⟨b,0,none⟩),x] w fun e w'=>e=.returned (.bool false)/\w'=w:=by
 refine calls_of_loneTo fun cs=>?_
 have e:Frame.enter Tryz.prog 19 #[.pointer (some ⟨b,0,none⟩),x] .normal=(base 19).at ⟨#[.pointer (some ⟨b,0,none⟩),x,undef,undef,undef,undef,undef,undef,undef,undef,undef,undef,undef,undef,undef,undef,undef],[]⟩ [.code (Tryz.f19.body.getD .skip)]:=by
  simp [Frame.enter,Frame.at,Tryz.func19,base,Tryz.f19]
 rw [e]
 have h0:w.cell? ⟨b,0,none⟩=some (.chan (some c)):=by simp [World.cell?,hb]
 have h1:w.cell? ⟨b,1,none⟩=some (.bool false):=by simp [World.cell?,hb]
 refine LoneTo.goes (n:=27) ?_
 simp only [Tryz.f19,Option.getD_some]
 s_c stepG_seq
 s_reg
 s_op
 s_c stepG_region_end
 s_c stepG_seq
 s_c stepG_seq
 s_reg
 s_op
 s_op
 s_op
 s_op
 s_c stepG_region_end
 s_cond false
 s_c stepG_skip
 s_c stepG_seq
 s_c stepG_seq
 s_reg
 s_op
 s_op
 s_op
 s_op
 s_c stepG_region_end
 s_reg
 s_op
 s_c stepG_region_end
 s_c stepG_seq
 s_reg
 s_stop
 refine LoneTo.step (step_lone_select_send_full (c:=c) (v:=x) (z':=.int .u8 0) (cap:=cap) (buf:=buf) (s:=s) (r:=r) (tm:=tm) (stepG_comm (cases:=#[scase c x (.int .u8 0)]) (blocking:=false) (shape:=.select) (w':=w) rfl rfl (by decide) (by simp [go_sem,execOp,scase,Act.eval])) hc hf) ?_
 rw [Frame.finish_at]
 walk_nrm
 refine LoneTo.goes (n:=10) ?_
 s_op
 s_op
 s_c stepG_region_end
 s_c stepG_block
 s_cond false
 s_c stepG_seq
 s_reg
 s_op
 s_c stepG_region_end
 s_c stepG_ret'
 s_stop
 exact LoneTo.done ⟨.returned (.bool false),_,rfl,⟨rfl,rfl⟩,rfl,rfl,rfl,rfl,_,Tryz.func19,by simp [results,Tryz.f19,Frame.at]⟩
theorem qoQ (b c cap s r:Nat) (tm:Bool) (T:TypeId) (w:World) (hb:w.heap[b]?=some (.cells #[.chan (some c),.bool false] T (0,0))) (x:Value) (buf:Array Value) (hc:w.heap[c]?=some (.chan cap buf false s r tm)) (hf:buf.size<cap) :
  Calls Tryz.prog 19 #[.pointer (some ⟨b,0,none⟩),x] w fun e w'=>e=.returned (.bool true)/\w'=w.setChan c cap (buf.push x) false (s+1) r tm:=by
 refine calls_of_loneTo fun cs=>?_
 have e:Frame.enter Tryz.prog 19 #[.pointer (some ⟨b,0,none⟩),x] .normal=(base 19).at ⟨#[.pointer (some ⟨b,0,none⟩),x,undef,undef,undef,undef,undef,undef,undef,undef,undef,undef,undef,undef,undef,undef,undef],[]⟩ [.code (Tryz.f19.body.getD .skip)]:=by
  simp [Frame.enter,Frame.at,Tryz.func19,base,Tryz.f19]
 rw [e]
 have h0:w.cell? ⟨b,0,none⟩=some (.chan (some c)):=by simp [World.cell?,hb]
 have h1:w.cell? ⟨b,1,none⟩=some (.bool false):=by simp [World.cell?,hb]
 refine LoneTo.goes (n:=27) ?_
 simp only [Tryz.f19,Option.getD_some]
 s_c stepG_seq
 s_reg
 s_op
 s_c stepG_region_end
 s_c stepG_seq
 s_c stepG_seq
 s_reg
 s_op
 s_op
 s_op
 s_op
 s_c stepG_region_end
 s_cond false
 s_c stepG_skip
 s_c stepG_seq
 s_c stepG_seq
 s_reg
 s_op
 s_op
 s_op
 s_op
 s_c stepG_region_end
 s_reg
 s_op
 s_c stepG_region_end
 s_c stepG_seq
 s_reg
 s_stop
 refine LoneTo.step (step_lone_select_send_room (c:=c) (v:=x) (z':=.int .u8 0) (cap:=cap) (buf:=buf) (s:=s) (r:=r) (tm:=tm) (stepG_comm (cases:=#[scase c x (.int .u8 0)]) (blocking:=false) (shape:=.select) (w':=w) rfl rfl (by decide) (by simp [go_sem,execOp,scase,Act.eval])) hc hf) ?_
 rw [Frame.finish_at]
 walk_nrm
 refine LoneTo.goes (n:=10) ?_
 s_op
 s_op
 s_c stepG_region_end
 s_c stepG_block
 s_cond true
 s_c stepG_seq
 s_reg
 s_op
 s_c stepG_region_end
 s_c stepG_ret'
 s_stop
 exact LoneTo.done ⟨.returned (.bool true),_,rfl,⟨rfl,rfl⟩,rfl,rfl,rfl,rfl,_,Tryz.func19,by simp [results,Tryz.f19,Frame.at]⟩
theorem qMN:∃i,Tryz.prog.info? 5=some i/\i.bytes=1:=by
 have h:(Tryz.prog.info? 5).map (·.bytes)=some 1:=by kernel_rfl
 obtain ⟨i,hi,hb⟩:=Option.map_eq_some_iff.1 h
 exact ⟨i,hi,hb⟩
theorem mkc (n:Nat) (hn:n<=4096) (w:World):(Instr.makeChan 52 (.int .i64 n)).run Tryz.prog w=.ok (.chan (some w.heap.size)) (w.alloc (.chan n #[] false 0 0 false)):=by
 obtain ⟨i,hi,hb⟩:=qMN
 exact run_makeChan (P:=Tryz.prog) (w:=w) Tryz.underlying52 hi .i64 n (by omega) (by rw [hb];omega)
theorem bld (c:Nat) (w:World):(Instr.build 54 #[(0,.chan (some c))]).run Tryz.prog w=.ok (.agg #[.chan (some c),.bool false]) w:=run_build w 54 _ _ (by kernel_rfl)
theorem qF2 (n:Nat) (h1:1<=n) (h2:n<=4096) (w:World):Calls Tryz.prog 9 #[.int .i64 n] w fun e w'=>
  e=.returned (.pointer (some ⟨w.heap.size+1,0,none⟩))/\w'=(w.alloc (.chan n #[] false 0 0 false)).alloc (.cells #[.chan (some w.heap.size),.bool false] 54 (0,0)):=by
 refine calls_of_loneTo fun cs=>?_
 have e:Frame.enter Tryz.prog 9 #[.int .i64 n] .normal=(base 9).at ⟨#[.int .i64 n,undef,undef,undef,undef,undef,undef,undef,undef],[]⟩ [.code (Tryz.f9.body.getD .skip)]:=by
  simp [Frame.enter,Frame.at,Tryz.func9,base,Tryz.f9]
 rw [e]
 have hmc:=mkc n h2
 have hbd:=bld
 have m1:¬((n:Int)<1):=by omega
 have m2:¬((4096:Int)<(n:Int)):=by omega
 refine LoneTo.goes (n:=15) ?_
 simp only [Tryz.f9,Option.getD_some]
 s_c stepG_seq
 s_reg
 s_op
 s_c stepG_region_end
 s_c stepG_seq
 s_reg
 s_op
 s_op
 s_op
 s_op
 s_op
 s_op
 s_op
 s_c stepG_region_end
 s_c stepG_ret'
 s_stop
 exact LoneTo.done ⟨.returned (.pointer (some ⟨w.heap.size+1,0,none⟩)),_,rfl,⟨rfl,rfl⟩,rfl,rfl,rfl,rfl,_,Tryz.func9,by simp [results,Tryz.f9,Frame.at]⟩
end Go.Proofs.YtdimnhbfkogllaaGreatDoor
