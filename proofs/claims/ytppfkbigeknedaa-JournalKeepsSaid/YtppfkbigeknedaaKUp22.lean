/- dunnagelaw22.up, by hand. -/
import Derived.Test.YtppfkbigeknedaaKQjournalBytes
import Derived.Test.YtppfkbigeknedaaKQjournalMay
namespace Go.Proofs.Ytppfkbigeknedaa.Q
open Go.RowKit Go.Proofs.YtppfkbigeknedaaW.PrintWords Go.Proofs.YtppfkbigeknedaaW.PrintLast Go.Proofs.YtppfkbigeknedaaW.PrintMore
set_option linter.unusedVariables false
set_option linter.unusedSimpArgs false
set_option maxRecDepth 100000
attribute [local go_sem] eqe_ii eqe_nn eqe_ni eqe_nni
theorem open_nil (w : World) : Calls Try.prog 50 #[.pointer none] w fun e w' => e = .returned (.tuple #[.pointer none, errW (some 1)]) ∧ Below w.heap.size w w' := by
  rw [errW_some]
  go_enter Try.func50, Try.ntmps50
  go_wp2
  go_ret2
  exact ⟨rfl, by repeat (first | (with_reducible exact Below.refl _ _) | apply below_alloc | apply pw_below_drewN | apply below_drew1)⟩
theorem bytes_up : journal_Bytes.f 9 2 1 [] = some ([2, 2, 1], none) := by
  simp only [journal_Bytes.f, journal_entry.f, journal_entry.j0, IntKind.wrap_u64]
  decide +kernel
theorem may_up : journal_May.f 5 0 0 [] = some false := by
  decide +kernel
set_option maxHeartbeats 8000000 in
theorem law22_up (w : World) : Calls Try.prog 42 #[] w fun e w' => e = .returned (.bool true) ∧ Below w.heap.size w w' := by
  go_enter Try.func42, Try.ntmps42
  go_wp2_with fail
  refine (journal_Bytes.calls 9 2 1 none 0 [] [2, 2, 1] none _ (Kd.C_nil _ _) (Nat.le_refl _) bytes_up).mono ?_
  rintro e w1 ⟨v1, rfl, hr1, hb1⟩
  rw [errW_none]
  obtain ⟨A1, c1, rfl⟩ := Kd.R_slice hr1
  have HR1 := Aside0.mk (Kd.R_reads' hr1).2.2
  have HB1 := Aside0.mk hb1
  clear hr1 hb1
  go_wp2_with fail
  refine (open_nil _).mono ?_
  rintro e w2 ⟨rfl, hb2⟩
  rw [errW_some]
  have hs : ∀ W, Below w2.heap.size w2 W → (convert 46 9 (.slice A1 3 c1)).run Try.prog W = .ok (.string { data := #[2, 2, 1] }) W := fun W hb => Kd.C_string (P := Try.prog) (src := 46) (dst := 9) (e := 5) (c := c1) Try.underlying46 (by kernel_rfl) (by kernel_rfl) (Kd.C_below (Kd.C_below HR1.out hb2) hb)
  have hs2 := hs w2 (Below.refl _ _)
  have HB2 := Aside0.mk (below_step HB1.out hb2)
  clear hs hb2
  go_wp2_with fail
  refine (journal_May.calls 5 0 0 none 0 [] false _ (Kd.C_nil _ _) (Nat.le_refl _) may_up).mono ?_
  rintro e w3 ⟨rfl, hb3⟩
  have HB3 := Aside0.mk (below_step HB2.out hb3)
  clear hb3
  go_wp2
  go_ret
  exact ⟨rfl, HB3.out⟩
end Go.Proofs.Ytppfkbigeknedaa.Q
