-- written by a program of this session
import Derived.Test.YtppfkbigeknedaaQ0
import Derived.Test.YtppfkbigeknedaaQdunnageref01Add
import Derived.Test.YtppfkbigeknedaaQdunnageref01half
import Derived.Test.YtppfkbigeknedaaQdunnageref01times
namespace Go.Proofs.Ytppfkbigeknedaa.Q
open Go.RowKit Go.Proofs.YtppfkbigeknedaaW.PrintWords Go.Proofs.YtppfkbigeknedaaW.PrintLast Go.Proofs.YtppfkbigeknedaaW.PrintMore
attribute [local go_sem] max2_int min2_int max_two min_two max_three min_three max_four min_four   -- for this text's walks alone
set_option linter.unusedVariables false
set_option linter.unusedSimpArgs false

attribute [local go_sem] eqe_ii eqe_nn eqe_ni eqe_nni
/-! ### dunnageref01_Times: function 41 -/
def timesF (a b : Int) : Int × Bool := (dunnageref01_times.f 2 a b).getD (0, false)
theorem timesF_eq (a b : Int) : dunnageref01_times.f 2 a b = some (timesF a b) := by
  have h : ∀ x y, (dunnageref01_half.f x y).isSome = true := fun x y => by unfold dunnageref01_half.f; split <;> rfl
  have : (dunnageref01_times.f 2 a b).isSome = true := by
    obtain ⟨h1, e1⟩ := Option.isSome_iff_exists.1 (h a false)
    obtain ⟨h2, e2⟩ := Option.isSome_iff_exists.1 (h b false)
    obtain ⟨h3, e3⟩ := Option.isSome_iff_exists.1 (h a true)
    obtain ⟨h4, e4⟩ := Option.isSome_iff_exists.1 (h b true)
    simp only [dunnageref01_times.f, dunnageref01_times.j0, dunnageref01_times.j1, e1, e2, e3, e4, Option.bind_some, oneF_eq]
    repeat' split
    all_goals rfl
  obtain ⟨r, hr⟩ := Option.isSome_iff_exists.1 this
  rw [timesF, hr]; rfl
def dunnageref01_Times.f (a0_0 : Int) (a0_1 : Int) (a0_2 : Int) (a0_3 : Int) (a1 : Int) : Option (Int × Int × Int × Int × Bool) := some (each4b timesF a0_0 a0_1 a0_2 a0_3 a1 a1 a1 a1)
set_option maxHeartbeats 8000000 in
set_option maxRecDepth 100000 in
theorem dunnageref01_Times.calls (a0_0 : Int) (a0_1 : Int) (a0_2 : Int) (a0_3 : Int) (a1 : Int) (r1 r2 r3 r4 : Int) (r5 : Bool) (w : World) (h : dunnageref01_Times.f a0_0 a0_1 a0_2 a0_3 a1 = some (r1, r2, r3, r4, r5)) :
    Calls Try.prog 41 #[.agg #[.int .u64 a0_0, .int .u64 a0_1, .int .u64 a0_2, .int .u64 a0_3], .int .u64 a1] w fun e w' => e = .returned (.tuple #[.agg #[.int .u64 r1, .int .u64 r2, .int .u64 r3, .int .u64 r4], .bool r5]) ∧ Below w.heap.size w w' := by
  have H := Aside0.mk (Option.some.inj h)
  clear h
  have hone := fun (a b : Int) W => (dunnageref01_times.calls 2 a b (timesF a b).1 (timesF a b).2 W (timesF_eq a b)).mono (fun e w' (h : _ ∧ Drawn0 W w') => (⟨h.1, h.2.out⟩ : _ ∧ ∃ m, w' = W.drewN m))
  have c0 := hone a0_0 a1
  have c1 := hone a0_1 a1
  have c2 := hone a0_2 a1
  have c3 := hone a0_3 a1
  obtain ⟨⟨x0, y0⟩, e0⟩ : ∃ z, z = timesF a0_0 a1 := ⟨_, rfl⟩
  rw [← e0] at c0
  have E0 := Aside0.mk e0
  clear e0
  obtain ⟨⟨x1, y1⟩, e1⟩ : ∃ z, z = timesF a0_1 a1 := ⟨_, rfl⟩
  rw [← e1] at c1
  have E1 := Aside0.mk e1
  clear e1
  obtain ⟨⟨x2, y2⟩, e2⟩ : ∃ z, z = timesF a0_2 a1 := ⟨_, rfl⟩
  rw [← e2] at c2
  have E2 := Aside0.mk e2
  clear e2
  obtain ⟨⟨x3, y3⟩, e3⟩ : ∃ z, z = timesF a0_3 a1 := ⟨_, rfl⟩
  rw [← e3] at c3
  have E3 := Aside0.mk e3
  clear e3
  clear hone
  cases y0 with
  | false =>
    go_enter Try.func41, Try.ntmps41
    go_wp2
    refine wp_loop_rounds 5 ?_
    rw [rounds_succ]
    go_wp2_with (go_at_call 85; refine (c0 _).mono ?_; rintro e w' ⟨rfl, ⟨n0, rfl⟩⟩)
    refine bodyPost_ret (v := .tuple #[.agg #[.int .u64 0, .int .u64 0, .int .u64 0, .int .u64 0], .bool false]) (by simp [results, Try.results41, go_sem]) rfl ⟨?_, (by repeat (first | (with_reducible first | apply below_alloc | apply pw_below_drewN | apply below_drew1 | exact Below.refl _ _) | (refine below_set ?_ (by omega))))⟩
    have H := H.out
    have e0 := E0.out
    have e1 := E1.out
    have e2 := E2.out
    have e3 := E3.out
    simp only [each4b, ← e0, ← e1, ← e2, ← e3] at H
    simp at H
    obtain ⟨rfl, rfl, rfl, rfl, rfl⟩ := H
    rfl
  | true =>
    cases y1 with
    | false =>
      go_enter Try.func41, Try.ntmps41
      go_wp2
      refine wp_loop_rounds 5 ?_
      rw [rounds_succ]
      go_wp2_with (go_at_call 85; refine (c0 _).mono ?_; rintro e w' ⟨rfl, ⟨n0, rfl⟩⟩)
      rw [rounds_succ]
      go_wp2_with (go_at_call 85; refine (c1 _).mono ?_; rintro e w' ⟨rfl, ⟨n1, rfl⟩⟩)
      refine bodyPost_ret (v := .tuple #[.agg #[.int .u64 0, .int .u64 0, .int .u64 0, .int .u64 0], .bool false]) (by simp [results, Try.results41, go_sem]) rfl ⟨?_, (by repeat (first | (with_reducible first | apply below_alloc | apply pw_below_drewN | apply below_drew1 | exact Below.refl _ _) | (refine below_set ?_ (by omega))))⟩
      have H := H.out
      have e0 := E0.out
      have e1 := E1.out
      have e2 := E2.out
      have e3 := E3.out
      simp only [each4b, ← e0, ← e1, ← e2, ← e3] at H
      simp at H
      obtain ⟨rfl, rfl, rfl, rfl, rfl⟩ := H
      rfl
    | true =>
      cases y2 with
      | false =>
        go_enter Try.func41, Try.ntmps41
        go_wp2
        refine wp_loop_rounds 5 ?_
        rw [rounds_succ]
        go_wp2_with (go_at_call 85; refine (c0 _).mono ?_; rintro e w' ⟨rfl, ⟨n0, rfl⟩⟩)
        rw [rounds_succ]
        go_wp2_with (go_at_call 85; refine (c1 _).mono ?_; rintro e w' ⟨rfl, ⟨n1, rfl⟩⟩)
        rw [rounds_succ]
        go_wp2_with (go_at_call 85; refine (c2 _).mono ?_; rintro e w' ⟨rfl, ⟨n2, rfl⟩⟩)
        refine bodyPost_ret (v := .tuple #[.agg #[.int .u64 0, .int .u64 0, .int .u64 0, .int .u64 0], .bool false]) (by simp [results, Try.results41, go_sem]) rfl ⟨?_, (by repeat (first | (with_reducible first | apply below_alloc | apply pw_below_drewN | apply below_drew1 | exact Below.refl _ _) | (refine below_set ?_ (by omega))))⟩
        have H := H.out
        have e0 := E0.out
        have e1 := E1.out
        have e2 := E2.out
        have e3 := E3.out
        simp only [each4b, ← e0, ← e1, ← e2, ← e3] at H
        simp at H
        obtain ⟨rfl, rfl, rfl, rfl, rfl⟩ := H
        rfl
      | true =>
        cases y3 with
        | false =>
          go_enter Try.func41, Try.ntmps41
          go_wp2
          refine wp_loop_rounds 5 ?_
          rw [rounds_succ]
          go_wp2_with (go_at_call 85; refine (c0 _).mono ?_; rintro e w' ⟨rfl, ⟨n0, rfl⟩⟩)
          rw [rounds_succ]
          go_wp2_with (go_at_call 85; refine (c1 _).mono ?_; rintro e w' ⟨rfl, ⟨n1, rfl⟩⟩)
          rw [rounds_succ]
          go_wp2_with (go_at_call 85; refine (c2 _).mono ?_; rintro e w' ⟨rfl, ⟨n2, rfl⟩⟩)
          rw [rounds_succ]
          go_wp2_with (go_at_call 85; refine (c3 _).mono ?_; rintro e w' ⟨rfl, ⟨n3, rfl⟩⟩)
          refine bodyPost_ret (v := .tuple #[.agg #[.int .u64 0, .int .u64 0, .int .u64 0, .int .u64 0], .bool false]) (by simp [results, Try.results41, go_sem]) rfl ⟨?_, (by repeat (first | (with_reducible first | apply below_alloc | apply pw_below_drewN | apply below_drew1 | exact Below.refl _ _) | (refine below_set ?_ (by omega))))⟩
          have H := H.out
          have e0 := E0.out
          have e1 := E1.out
          have e2 := E2.out
          have e3 := E3.out
          simp only [each4b, ← e0, ← e1, ← e2, ← e3] at H
          simp at H
          obtain ⟨rfl, rfl, rfl, rfl, rfl⟩ := H
          rfl
        | true =>
          go_enter Try.func41, Try.ntmps41
          go_wp2
          refine wp_loop_rounds 5 ?_
          rw [rounds_succ]
          go_wp2_with (go_at_call 85; refine (c0 _).mono ?_; rintro e w' ⟨rfl, ⟨n0, rfl⟩⟩)
          rw [rounds_succ]
          go_wp2_with (go_at_call 85; refine (c1 _).mono ?_; rintro e w' ⟨rfl, ⟨n1, rfl⟩⟩)
          rw [rounds_succ]
          go_wp2_with (go_at_call 85; refine (c2 _).mono ?_; rintro e w' ⟨rfl, ⟨n2, rfl⟩⟩)
          rw [rounds_succ]
          go_wp2_with (go_at_call 85; refine (c3 _).mono ?_; rintro e w' ⟨rfl, ⟨n3, rfl⟩⟩)
          rw [rounds_succ]
          go_wp2
          refine bodyPost_ret (v := .tuple #[.agg #[.int .u64 x0, .int .u64 x1, .int .u64 x2, .int .u64 x3], .bool true]) (by simp [results, Try.results41, go_sem]) rfl ⟨?_, (by repeat (first | (with_reducible first | apply below_alloc | apply pw_below_drewN | apply below_drew1 | exact Below.refl _ _) | (refine below_set ?_ (by omega))))⟩
          have H := H.out
          have e0 := E0.out
          have e1 := E1.out
          have e2 := E2.out
          have e3 := E3.out
          simp only [each4b, ← e0, ← e1, ← e2, ← e3] at H
          simp at H
          obtain ⟨rfl, rfl, rfl, rfl, rfl⟩ := H
          rfl

end Go.Proofs.Ytppfkbigeknedaa.Q
