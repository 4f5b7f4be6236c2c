/- Walks of ip's small functions: what gives up, what catches. No statement of its own. -/
import Derived.Test.YthnhpbplglmmmaaDoorPureWHand
import Derived.WalkSmall
namespace Go.Proofs.YthnhpbplglmmmaaDoor.P
open Go.RowKit Go.Proofs.YthnhpbplglmmmaaDoorW.PrintWords Go.Proofs.YthnhpbplglmmmaaDoorW.PrintLast Go.Proofs.YthnhpbplglmmmaaDoorW.PrintMore
set_option linter.unusedVariables false
set_option linter.unusedSimpArgs false
theorem ip_refuse.pass (e : Int) (w : World) : Calls Tryd.prog 23 #[.bool false, .int .i64 e] w fun e' w' => e' = .returned (.tuple #[]) ∧ w = w' := by
  go_enter Tryd.func23, Tryd.ntmps23
  go_wp2
  first | go_end0 | ((try simp only [Exit.inBlock, Exit.then]); refine bodyPost_ret (results_none rfl _ _ _) rfl ?_)
  exact ⟨rfl, rfl⟩
theorem ip_refuse.gives (e : Int) (w : World) : Calls Tryd.prog 23 #[.bool true, .int .i64 e] w fun e' w' => e' = .panicked [{ v := .iface 30 (.int .i64 e), recovered := false }] ∧ w = w' := by
  go_enter Tryd.func23, Tryd.ntmps23
  go_wp2
  exact ⟨rfl, rfl, rfl⟩
set_option maxRecDepth 100000 in
theorem ip_thrown.ok (e : Int) (w : World) : Calls Tryd.prog 22 #[.iface 30 (.int .i64 e)] w fun e' w' => e' = .returned (.int .i64 e) ∧ w = w' := by
  have ha : ∀ w : World, (Instr.typeAssert (.iface 30 (.int .i64 e)) 20 30 true).run Tryd.prog w = .ok (.tuple #[.int .i64 e, .bool true]) w := fun w => by
    first | rfl | kernel_rfl | (unfold Instr.typeAssert; simp [go_sem]; done)
  go_enter Tryd.func22, Tryd.ntmps22
  go_wp2
  go_ret
  exact ⟨rfl, rfl⟩
set_option maxRecDepth 100000 in
set_option maxHeartbeats 1600000 in
theorem ip_Build.catch (p q : Nat) (e : Int) (v u : Value) (older : List PanicEntry) (w : World) (hp : w.cell? ⟨p, 0, none⟩ = some v) (fp : w.frozen? ⟨p, 0, none⟩ = false) (hq : w.cell? ⟨q, 0, none⟩ = some u) (fq : w.frozen? ⟨q, 0, none⟩ = false) (hne : ¬ p = q) :
    CallsD Tryd.prog 21 #[.pointer (some ⟨p, 0, none⟩), .pointer (some ⟨q, 0, none⟩)] (.panicking ({ v := .iface 30 (.int .i64 e), recovered := false } :: older)) w fun e' u' w' =>
      e' = .returned (.tuple #[]) ∧ u' = .panicking ({ v := .iface 30 (.int .i64 e), recovered := true } :: older) ∧ w' = (w.setCell ⟨p, 0, none⟩ (.slice none 0 0)).setCell ⟨q, 0, none⟩ (.int .i64 e) := by
  have hne' : ¬ q = p := fun h => hne h.symm
  refine callsD_of_wpS Tryd.func21 rfl fun c₀ cs hu => ?_
  apply wpS_seq
  apply wpS_region
  simp [wpOpsS, go_sem, recoverD, hu, Tryd.ntmps21, Exit.thenS]
  refine wpS_of_wp ?_
  change Code.wp Tryd.prog _ _ ⟨#[.pointer (some ⟨p, 0, none⟩), .pointer (some ⟨q, 0, none⟩), .iface 30 (.int .i64 e), .iface 30 (.int .i64 e), undef, undef, undef, undef], []⟩ w
  clear hu
  go_wp2_with (first | (go_at_call 22; refine (ip_thrown.ok e _).mono ?_; rintro e' w1 ⟨rfl, rfl⟩))
  simp [bodyPostS, results, Tryd.results21]
theorem ip_Build.idle (p q : Nat) (w : World) :
    CallsD Tryd.prog 21 #[.pointer (some ⟨p, 0, none⟩), .pointer (some ⟨q, 0, none⟩)] .returning w fun e' u' w' => e' = .returned (.tuple #[]) ∧ u' = .returning ∧ w = w' := by
  refine callsD_of_wpS Tryd.func21 rfl fun c₀ cs hu => ?_
  apply wpS_seq
  apply wpS_region
  simp [wpOpsS, go_sem, recoverD, hu, Tryd.ntmps21, Exit.thenS]
  refine wpS_of_wp ?_
  change Code.wp Tryd.prog _ _ ⟨#[.pointer (some ⟨p, 0, none⟩), .pointer (some ⟨q, 0, none⟩), .nilIface, .nilIface, undef, undef, undef, undef], []⟩ w
  go_wp2
  cases c₀
  simp_all [bodyPostS, results, Tryd.results21]
theorem errno_load (g : Nat) (x : Value) (w : World) (h : w.cell? ⟨g, 0, none⟩ = some x) : (loadVar 30 ⟨g, 0, none⟩).run Tryd.prog w = .ok x w := by
  simp [go_sem, h]
end Go.Proofs.YthnhpbplglmmmaaDoor.P
