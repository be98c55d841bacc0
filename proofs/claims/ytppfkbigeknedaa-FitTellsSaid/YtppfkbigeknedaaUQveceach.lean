import Derived.Test.YtppfkbigeknedaaUQ0
namespace Go.Proofs.Ytppfkbigeknedaa.Q
open Go.RowKit Go.Proofs.YtppfkbigeknedaaW.PrintWords Go.Proofs.YtppfkbigeknedaaW.PrintLast Go.Proofs.YtppfkbigeknedaaW.PrintMore
attribute [local go_sem] max2_int min2_int max_two min_two max_three min_three max_four min_four   -- for this text's walks alone
set_option linter.unusedVariables false
set_option linter.unusedSimpArgs false

attribute [local go_sem] eqe_ii eqe_nn eqe_ni eqe_nni
def isU64 (x : Int) : Bool := decide (0 ≤ x) && decide (x < 18446744073709551616)
theorem isU64_iff {x : Int} : isU64 x = true ↔ 0 ≤ x ∧ x < 18446744073709551616 := by simp [isU64]
def each4 (f : Int → Int → Int × Bool) (a0 a1 a2 a3 b0 b1 b2 b3 : Int) : Int × Int × Int × Int × Option Int :=
  if (f a0 b0).2 = true then if (f a1 b1).2 = true then if (f a2 b2).2 = true then if (f a3 b3).2 = true then ((f a0 b0).1, (f a1 b1).1, (f a2 b2).1, (f a3 b3).1, none) else (0, 0, 0, 0, some 8) else (0, 0, 0, 0, some 8) else (0, 0, 0, 0, some 8) else (0, 0, 0, 0, some 8)
set_option maxHeartbeats 8000000 in
theorem each_any (g : Nat) (lb : Array Value) (f : Int → Int → Int × Bool) (eg : ∀ args w, (callFunc g args).run Try.prog w = .ok (.enter g args) w)
   (a0 a1 a2 a3 b0 b1 b2 b3 : Int) (w : World) (ok : Int → Int → Prop) (h0 : ok a0 b0) (h1 : ok a1 b1) (h2 : ok a2 b2) (h3 : ok a3 b3)
   (hp : ∀ W x y, ok x y → Below w.heap.size w W → Calls Try.prog g (#[.int .u64 x, .int .u64 y] ++ lb) W fun e w' => e = .returned (.tuple #[.int .u64 (f x y).1, .bool (f x y).2]) ∧ w' = W) :
    Calls Try.prog 75 #[.agg #[.int .u64 a0, .int .u64 a1, .int .u64 a2, .int .u64 a3], .agg #[.int .u64 b0, .int .u64 b1, .int .u64 b2, .int .u64 b3], .func (.func g) #[] lb] w fun e w' =>
      e = .returned (.tuple #[.agg #[.int .u64 (each4 f a0 a1 a2 a3 b0 b1 b2 b3).1, .int .u64 (each4 f a0 a1 a2 a3 b0 b1 b2 b3).2.1, .int .u64 (each4 f a0 a1 a2 a3 b0 b1 b2 b3).2.2.1, .int .u64 (each4 f a0 a1 a2 a3 b0 b1 b2 b3).2.2.2.1], errW (each4 f a0 a1 a2 a3 b0 b1 b2 b3).2.2.2.2]) ∧ Below w.heap.size w w' := by
  have hp0 := fun W => hp W _ _ h0
  have hp1 := fun W => hp W _ _ h1
  have hp2 := fun W => hp W _ _ h2
  have hp3 := fun W => hp W _ _ h3
  clear hp h0 h1 h2 h3
  go_enter Try.func75, Try.ntmps75
  go_wp2
  refine wp_loop_rounds 5 ?_
  rw [rounds_succ]
  go_wp2
  go_quiet ((go_at_fn g; exact Calls.quiet_of_same (hp0 _ (by repeat (first | (with_reducible first | apply below_alloc | apply pw_below_drewN | apply below_drew1 | exact Below.refl _ _) | (refine below_set ?_ (by omega)))))))
  go_wp2
  · have h : (!(f a0 b0).snd) = true := by assumption
    refine bodyPost_ret (v := .tuple #[.agg #[.int .u64 0, .int .u64 0, .int .u64 0, .int .u64 0], .iface 66 (.int .i64 8)]) (by simp [results, Try.results75, go_sem]) rfl ⟨?_, (by repeat (first | (with_reducible first | apply below_alloc | apply pw_below_drewN | apply below_drew1 | exact Below.refl _ _) | (refine below_set ?_ (by omega))))⟩
    simp only [Bool.not_eq_true', Bool.not_eq_false'] at *
    simp [each4, errW, *]
  rw [rounds_succ]
  go_wp2
  go_quiet ((go_at_fn g; exact Calls.quiet_of_same (hp1 _ (by repeat (first | (with_reducible first | apply below_alloc | apply pw_below_drewN | apply below_drew1 | exact Below.refl _ _) | (refine below_set ?_ (by omega)))))))
  go_wp2
  · have h : (!(f a1 b1).snd) = true := by assumption
    refine bodyPost_ret (v := .tuple #[.agg #[.int .u64 0, .int .u64 0, .int .u64 0, .int .u64 0], .iface 66 (.int .i64 8)]) (by simp [results, Try.results75, go_sem]) rfl ⟨?_, (by repeat (first | (with_reducible first | apply below_alloc | apply pw_below_drewN | apply below_drew1 | exact Below.refl _ _) | (refine below_set ?_ (by omega))))⟩
    simp only [Bool.not_eq_true', Bool.not_eq_false'] at *
    simp [each4, errW, *]
  rw [rounds_succ]
  go_wp2
  go_quiet ((go_at_fn g; exact Calls.quiet_of_same (hp2 _ (by repeat (first | (with_reducible first | apply below_alloc | apply pw_below_drewN | apply below_drew1 | exact Below.refl _ _) | (refine below_set ?_ (by omega)))))))
  go_wp2
  · have h : (!(f a2 b2).snd) = true := by assumption
    refine bodyPost_ret (v := .tuple #[.agg #[.int .u64 0, .int .u64 0, .int .u64 0, .int .u64 0], .iface 66 (.int .i64 8)]) (by simp [results, Try.results75, go_sem]) rfl ⟨?_, (by repeat (first | (with_reducible first | apply below_alloc | apply pw_below_drewN | apply below_drew1 | exact Below.refl _ _) | (refine below_set ?_ (by omega))))⟩
    simp only [Bool.not_eq_true', Bool.not_eq_false'] at *
    simp [each4, errW, *]
  rw [rounds_succ]
  go_wp2
  go_quiet ((go_at_fn g; exact Calls.quiet_of_same (hp3 _ (by repeat (first | (with_reducible first | apply below_alloc | apply pw_below_drewN | apply below_drew1 | exact Below.refl _ _) | (refine below_set ?_ (by omega)))))))
  go_wp2
  · have h : (!(f a3 b3).snd) = true := by assumption
    refine bodyPost_ret (v := .tuple #[.agg #[.int .u64 0, .int .u64 0, .int .u64 0, .int .u64 0], .iface 66 (.int .i64 8)]) (by simp [results, Try.results75, go_sem]) rfl ⟨?_, (by repeat (first | (with_reducible first | apply below_alloc | apply pw_below_drewN | apply below_drew1 | exact Below.refl _ _) | (refine below_set ?_ (by omega))))⟩
    simp only [Bool.not_eq_true', Bool.not_eq_false'] at *
    simp [each4, errW, *]
  rw [rounds_succ]
  go_wp2
  refine bodyPost_ret (v := .tuple #[.agg #[.int .u64 (f a0 b0).1, .int .u64 (f a1 b1).1, .int .u64 (f a2 b2).1, .int .u64 (f a3 b3).1], .nilIface]) (by simp [results, Try.results75, go_sem]) rfl ⟨?_, (by repeat (first | (with_reducible first | apply below_alloc | apply pw_below_drewN | apply below_drew1 | exact Below.refl _ _) | (refine below_set ?_ (by omega))))⟩
  simp only [Bool.not_eq_true', Bool.not_eq_false'] at *
  simp [each4, errW, *]

end Go.Proofs.Ytppfkbigeknedaa.Q
