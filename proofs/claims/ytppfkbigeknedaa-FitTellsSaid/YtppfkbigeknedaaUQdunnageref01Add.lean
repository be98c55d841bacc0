import Derived.Test.YtppfkbigeknedaaUQ0
import Derived.Test.YtppfkbigeknedaaUQdunnageref01half
import Derived.Test.YtppfkbigeknedaaUQdunnageref01one
namespace Go.Proofs.Ytppfkbigeknedaa.Q
open Go.RowKit Go.Proofs.YtppfkbigeknedaaW.PrintWords Go.Proofs.YtppfkbigeknedaaW.PrintLast Go.Proofs.YtppfkbigeknedaaW.PrintMore
attribute [local go_sem] max2_int min2_int max_two min_two max_three min_three max_four min_four   -- for this text's walks alone
set_option linter.unusedVariables false
set_option linter.unusedSimpArgs false

attribute [local go_sem] eqe_ii eqe_nn eqe_ni eqe_nni
def each4b (f : Int → Int → Int × Bool) (a0 a1 a2 a3 b0 b1 b2 b3 : Int) : Int × Int × Int × Int × Bool :=
  if (f a0 b0).2 = true then if (f a1 b1).2 = true then if (f a2 b2).2 = true then if (f a3 b3).2 = true then ((f a0 b0).1, (f a1 b1).1, (f a2 b2).1, (f a3 b3).1, true) else (0, 0, 0, 0, false) else (0, 0, 0, 0, false) else (0, 0, 0, 0, false) else (0, 0, 0, 0, false)
def oneF (a b : Int) : Int × Bool := (dunnageref01_one.f a b).getD (0, false)
theorem oneF_eq (a b : Int) : dunnageref01_one.f a b = some (oneF a b) := by
  have h : ∀ x y, (dunnageref01_half.f x y).isSome = true := fun x y => by unfold dunnageref01_half.f; split <;> rfl
  have : (dunnageref01_one.f a b).isSome = true := by
    unfold dunnageref01_one.f
    obtain ⟨h1, e1⟩ := Option.isSome_iff_exists.1 (h a false)
    obtain ⟨h2, e2⟩ := Option.isSome_iff_exists.1 (h b false)
    obtain ⟨h3, e3⟩ := Option.isSome_iff_exists.1 (h a true)
    obtain ⟨h4, e4⟩ := Option.isSome_iff_exists.1 (h b true)
    rw [e1, e2, e3, e4]
    simp only [Option.bind_some]
    split <;> rfl
  obtain ⟨r, hr⟩ := Option.isSome_iff_exists.1 this
  rw [oneF, hr]; rfl
def dunnageref01_Add.f (a0_0 : Int) (a0_1 : Int) (a0_2 : Int) (a0_3 : Int) (a1_0 : Int) (a1_1 : Int) (a1_2 : Int) (a1_3 : Int) : Option (Int × Int × Int × Int × Bool) := some (each4b oneF a0_0 a0_1 a0_2 a0_3 a1_0 a1_1 a1_2 a1_3)
set_option maxHeartbeats 8000000 in
set_option maxRecDepth 100000 in
theorem dunnageref01_Add.calls (a0_0 : Int) (a0_1 : Int) (a0_2 : Int) (a0_3 : Int) (a1_0 : Int) (a1_1 : Int) (a1_2 : Int) (a1_3 : Int) (r1 r2 r3 r4 : Int) (r5 : Bool) (w : World) (h : dunnageref01_Add.f a0_0 a0_1 a0_2 a0_3 a1_0 a1_1 a1_2 a1_3 = some (r1, r2, r3, r4, r5)) :
    Calls Try.prog 29 #[.agg #[.int .u64 a0_0, .int .u64 a0_1, .int .u64 a0_2, .int .u64 a0_3], .agg #[.int .u64 a1_0, .int .u64 a1_1, .int .u64 a1_2, .int .u64 a1_3]] w fun e w' => e = .returned (.tuple #[.agg #[.int .u64 r1, .int .u64 r2, .int .u64 r3, .int .u64 r4], .bool r5]) ∧ Below w.heap.size w w' := by
  have H := Aside0.mk (Option.some.inj h)
  clear h
  have hone := fun (a b : Int) W => (dunnageref01_one.calls a b (oneF a b).1 (oneF a b).2 W (oneF_eq a b)).mono (fun e w' (h : _ ∧ Drawn0 W w') => (⟨h.1, h.2.out⟩ : _ ∧ ∃ m, w' = W.drewN m))
  have c0 := hone a0_0 a1_0
  have c1 := hone a0_1 a1_1
  have c2 := hone a0_2 a1_2
  have c3 := hone a0_3 a1_3
  obtain ⟨⟨x0, y0⟩, e0⟩ : ∃ z, z = oneF a0_0 a1_0 := ⟨_, rfl⟩
  rw [← e0] at c0
  have E0 := Aside0.mk e0
  clear e0
  obtain ⟨⟨x1, y1⟩, e1⟩ : ∃ z, z = oneF a0_1 a1_1 := ⟨_, rfl⟩
  rw [← e1] at c1
  have E1 := Aside0.mk e1
  clear e1
  obtain ⟨⟨x2, y2⟩, e2⟩ : ∃ z, z = oneF a0_2 a1_2 := ⟨_, rfl⟩
  rw [← e2] at c2
  have E2 := Aside0.mk e2
  clear e2
  obtain ⟨⟨x3, y3⟩, e3⟩ : ∃ z, z = oneF a0_3 a1_3 := ⟨_, rfl⟩
  rw [← e3] at c3
  have E3 := Aside0.mk e3
  clear e3
  clear hone
  cases y0 with
  | false =>
    go_enter Try.func29, Try.ntmps29
    go_wp2
    refine wp_loop_rounds 5 ?_
    rw [rounds_succ]
    go_wp2
    go_quiet ((go_at_call 79; exact Calls.quiet_of (c0 _)))
    go_wp2
    refine bodyPost_ret (v := .tuple #[.agg #[.int .u64 0, .int .u64 0, .int .u64 0, .int .u64 0], .bool false]) (by simp [results, Try.results29, go_sem]) rfl ⟨?_, (by repeat (first | (with_reducible first | apply below_alloc | apply pw_below_drewN | apply below_drew1 | exact Below.refl _ _) | (refine below_set ?_ (by omega))))⟩
    have H := H.out
    have e0 := E0.out
    have e1 := E1.out
    have e2 := E2.out
    have e3 := E3.out
    simp only [each4b, ← e0, ← e1, ← e2, ← e3] at H
    simp at H
    obtain ⟨rfl, rfl, rfl, rfl, rfl⟩ := H
    rfl
  | true =>
    cases y1 with
    | false =>
      go_enter Try.func29, Try.ntmps29
      go_wp2
      refine wp_loop_rounds 5 ?_
      rw [rounds_succ]
      go_wp2
      go_quiet ((go_at_call 79; exact Calls.quiet_of (c0 _)))
      go_wp2
      rw [rounds_succ]
      go_wp2
      go_quiet ((go_at_call 79; exact Calls.quiet_of (c1 _)))
      go_wp2
      refine bodyPost_ret (v := .tuple #[.agg #[.int .u64 0, .int .u64 0, .int .u64 0, .int .u64 0], .bool false]) (by simp [results, Try.results29, go_sem]) rfl ⟨?_, (by repeat (first | (with_reducible first | apply below_alloc | apply pw_below_drewN | apply below_drew1 | exact Below.refl _ _) | (refine below_set ?_ (by omega))))⟩
      have H := H.out
      have e0 := E0.out
      have e1 := E1.out
      have e2 := E2.out
      have e3 := E3.out
      simp only [each4b, ← e0, ← e1, ← e2, ← e3] at H
      simp at H
      obtain ⟨rfl, rfl, rfl, rfl, rfl⟩ := H
      rfl
    | true =>
      cases y2 with
      | false =>
        go_enter Try.func29, Try.ntmps29
        go_wp2
        refine wp_loop_rounds 5 ?_
        rw [rounds_succ]
        go_wp2
        go_quiet ((go_at_call 79; exact Calls.quiet_of (c0 _)))
        go_wp2
        rw [rounds_succ]
        go_wp2
        go_quiet ((go_at_call 79; exact Calls.quiet_of (c1 _)))
        go_wp2
        rw [rounds_succ]
        go_wp2
        go_quiet ((go_at_call 79; exact Calls.quiet_of (c2 _)))
        go_wp2
        refine bodyPost_ret (v := .tuple #[.agg #[.int .u64 0, .int .u64 0, .int .u64 0, .int .u64 0], .bool false]) (by simp [results, Try.results29, go_sem]) rfl ⟨?_, (by repeat (first | (with_reducible first | apply below_alloc | apply pw_below_drewN | apply below_drew1 | exact Below.refl _ _) | (refine below_set ?_ (by omega))))⟩
        have H := H.out
        have e0 := E0.out
        have e1 := E1.out
        have e2 := E2.out
        have e3 := E3.out
        simp only [each4b, ← e0, ← e1, ← e2, ← e3] at H
        simp at H
        obtain ⟨rfl, rfl, rfl, rfl, rfl⟩ := H
        rfl
      | true =>
        cases y3 with
        | false =>
          go_enter Try.func29, Try.ntmps29
          go_wp2
          refine wp_loop_rounds 5 ?_
          rw [rounds_succ]
          go_wp2
          go_quiet ((go_at_call 79; exact Calls.quiet_of (c0 _)))
          go_wp2
          rw [rounds_succ]
          go_wp2
          go_quiet ((go_at_call 79; exact Calls.quiet_of (c1 _)))
          go_wp2
          rw [rounds_succ]
          go_wp2
          go_quiet ((go_at_call 79; exact Calls.quiet_of (c2 _)))
          go_wp2
          rw [rounds_succ]
          go_wp2
          go_quiet ((go_at_call 79; exact Calls.quiet_of (c3 _)))
          go_wp2
          refine bodyPost_ret (v := .tuple #[.agg #[.int .u64 0, .int .u64 0, .int .u64 0, .int .u64 0], .bool false]) (by simp [results, Try.results29, go_sem]) rfl ⟨?_, (by repeat (first | (with_reducible first | apply below_alloc | apply pw_below_drewN | apply below_drew1 | exact Below.refl _ _) | (refine below_set ?_ (by omega))))⟩
          have H := H.out
          have e0 := E0.out
          have e1 := E1.out
          have e2 := E2.out
          have e3 := E3.out
          simp only [each4b, ← e0, ← e1, ← e2, ← e3] at H
          simp at H
          obtain ⟨rfl, rfl, rfl, rfl, rfl⟩ := H
          rfl
        | true =>
          go_enter Try.func29, Try.ntmps29
          go_wp2
          refine wp_loop_rounds 5 ?_
          rw [rounds_succ]
          go_wp2
          go_quiet ((go_at_call 79; exact Calls.quiet_of (c0 _)))
          go_wp2
          rw [rounds_succ]
          go_wp2
          go_quiet ((go_at_call 79; exact Calls.quiet_of (c1 _)))
          go_wp2
          rw [rounds_succ]
          go_wp2
          go_quiet ((go_at_call 79; exact Calls.quiet_of (c2 _)))
          go_wp2
          rw [rounds_succ]
          go_wp2
          go_quiet ((go_at_call 79; exact Calls.quiet_of (c3 _)))
          go_wp2
          rw [rounds_succ]
          go_wp2
          refine bodyPost_ret (v := .tuple #[.agg #[.int .u64 x0, .int .u64 x1, .int .u64 x2, .int .u64 x3], .bool true]) (by simp [results, Try.results29, go_sem]) rfl ⟨?_, (by repeat (first | (with_reducible first | apply below_alloc | apply pw_below_drewN | apply below_drew1 | exact Below.refl _ _) | (refine below_set ?_ (by omega))))⟩
          have H := H.out
          have e0 := E0.out
          have e1 := E1.out
          have e2 := E2.out
          have e3 := E3.out
          simp only [each4b, ← e0, ← e1, ← e2, ← e3] at H
          simp at H
          obtain ⟨rfl, rfl, rfl, rfl, rfl⟩ := H
          rfl

end Go.Proofs.Ytppfkbigeknedaa.Q
