/- dunnagelaw00.Code, by hand. -/
import Derived.Test.YtppfkbigeknedaaVMappJ
namespace Go.Proofs.Ytppfkbigeknedaa.Q
open Go.RowKit Go.Proofs.YtppfkbigeknedaaW.PrintWords Go.Proofs.YtppfkbigeknedaaW.PrintLast Go.Proofs.YtppfkbigeknedaaW.PrintMore
set_option linter.unusedVariables false
set_option linter.unusedSimpArgs false
set_option maxRecDepth 100000
attribute [local go_sem] eqe_ii eqe_nn eqe_ni eqe_nni
theorem code_none (W : World) : Calls Try.prog 54 #[errW none] W fun e w' => e = .returned (.int .i64 0) ∧ Below W.heap.size W w' := by
  rw [errW_none]
  have HB := Aside0.mk (Below.refl W.heap.size W)
  go_enter Try.func54, Try.ntmps54
  go_wp2
  go_ret
  exact ⟨rfl, HB.out⟩
set_option maxHeartbeats 1600000 in
theorem code_some (W : World) (c : Int) (h1 : 1 ≤ c) (h2 : c ≤ 17) : Calls Try.prog 54 #[errW (some c)] W fun e w' => e = .returned (.int .i64 c) ∧ Below W.heap.size W w' := by
  rw [errW_some]
  have HB := Aside0.mk (Below.refl W.heap.size W)
  go_enter Try.func54, Try.ntmps54
  go_wp2
  go_loopw [3] (fun v3 w' => ∃ i : Int, v3 = .int .i64 i ∧ 1 ≤ i ∧ i ≤ c ∧ Aside0 (Below W.heap.size W w')) (fun v3 _ => (c - intOf v3).toNat)
  case atStart => exact ⟨1, rfl, by omega, h1, HB⟩
  case round =>
    clear HB
    obtain ⟨i, rfl, hi, hic, HB⟩ := hrel
    have h17 : i ≤ 17 := by omega
    have d17 : decide (i ≤ 17) = true := decide_eq_true h17
    by_cases he : c = i
    · subst he
      go_wp2
      go_ret
      exact ⟨rfl, HB.out⟩
    · have hne : decide (c = i) = false := decide_eq_false he
      go_wp2
      go_roundw
      case measure => simp [intOf]; omega
      case rel => exact ⟨i + 1, by go_num, by omega, by omega, HB⟩
theorem code_calls (W : World) (r : Option Int) (h : ∀ c, r = some c → 1 ≤ c ∧ c ≤ 17) : Calls Try.prog 54 #[errW r] W fun e w' => e = .returned (.int .i64 (r.getD 0)) ∧ Below W.heap.size W w' := by
  cases r with
  | none => exact code_none W
  | some c => exact code_some W c (h c rfl).1 (h c rfl).2
end Go.Proofs.Ytppfkbigeknedaa.Q
