import Derived.Test.YtppfkbigeknedaaUQ0
import Derived.Test.YtppfkbigeknedaaUQveceach
namespace Go.Proofs.Ytppfkbigeknedaa.Q
open Go.RowKit Go.Proofs.YtppfkbigeknedaaW.PrintWords Go.Proofs.YtppfkbigeknedaaW.PrintLast Go.Proofs.YtppfkbigeknedaaW.PrintMore
attribute [local go_sem] max2_int min2_int max_two min_two max_three min_three max_four min_four   -- for this text's walks alone
set_option linter.unusedVariables false
set_option linter.unusedSimpArgs false

attribute [local go_sem] eqe_ii eqe_nn eqe_ni eqe_nni
def addF (x y : Int) : Int × Bool := ((x + y) % 18446744073709551616, decide (x + y < 18446744073709551616))
theorem add1 (x y : Int) (w : World) (hx : 0 ≤ x) (hx' : x < 18446744073709551616) (hy : 0 ≤ y) (hy' : y < 18446744073709551616) :
    Calls Try.prog 76 #[.int .u64 x, .int .u64 y] w fun e w' => e = .returned (.tuple #[.int .u64 (addF x y).1, .bool (addF x y).2]) ∧ w' = w := by
  have he : ∀ w, (callFunc 77 #[.int .u64 x, .int .u64 y, .int .u64 0]).run Try.prog w = .ok (.value (.tuple #[.int .u64 ((x + y + 0) % 18446744073709551616), .int .u64 ((x + y + 0) / 18446744073709551616)])) w := fun w => by
    rw [run_callFunc_extern (e := add64Entry) Try.func77 (by kernel_rfl) (by kernel_rfl) (by kernel_rfl) (by kernel_rfl), run_add64 x y 0 hx hy (by omega) (by omega)]
    rfl
  have e1 : ((x + y + 0) / 18446744073709551616 == 0) = decide (x + y < 18446744073709551616) := by
    rw [Bool.eq_iff_iff]; simp only [beq_iff_eq, decide_eq_true_eq]; omega
  have e2 : (x + y + 0) = x + y := by omega
  have E1 := Aside0.mk e1
  have E2 := Aside0.mk e2
  clear e1 e2
  go_enter Try.func76, Try.ntmps76
  go_wp2
  go_ret2
  have e1 := E1.out
  rw [E2.out] at e1
  exact ⟨by simp [addF, e1], rfl⟩
def vec_Add.f (a0_0 : Int) (a0_1 : Int) (a0_2 : Int) (a0_3 : Int) (a1_0 : Int) (a1_1 : Int) (a1_2 : Int) (a1_3 : Int) : Option (Int × Int × Int × Int × Option Int) :=
  if (isU64 a0_0 && isU64 a0_1 && isU64 a0_2 && isU64 a0_3 && isU64 a1_0 && isU64 a1_1 && isU64 a1_2 && isU64 a1_3) = true then some (each4 addF a0_0 a0_1 a0_2 a0_3 a1_0 a1_1 a1_2 a1_3) else none
set_option maxHeartbeats 8000000 in
set_option maxRecDepth 100000 in
theorem vec_Add.calls (a0_0 : Int) (a0_1 : Int) (a0_2 : Int) (a0_3 : Int) (a1_0 : Int) (a1_1 : Int) (a1_2 : Int) (a1_3 : Int) (r1 r2 r3 r4 : Int) (r5 : Option Int) (w : World) (h : vec_Add.f a0_0 a0_1 a0_2 a0_3 a1_0 a1_1 a1_2 a1_3 = some (r1, r2, r3, r4, r5)) :
    Calls Try.prog 27 #[.agg #[.int .u64 a0_0, .int .u64 a0_1, .int .u64 a0_2, .int .u64 a0_3], .agg #[.int .u64 a1_0, .int .u64 a1_1, .int .u64 a1_2, .int .u64 a1_3]] w fun e w' => e = .returned (.tuple #[.agg #[.int .u64 r1, .int .u64 r2, .int .u64 r3, .int .u64 r4], errW r5]) ∧ Below w.heap.size w w' := by
  unfold vec_Add.f at h
  by_cases g : (isU64 a0_0 && isU64 a0_1 && isU64 a0_2 && isU64 a0_3 && isU64 a1_0 && isU64 a1_1 && isU64 a1_2 && isU64 a1_3) = true
  case neg => rw [if_neg g] at h; exact absurd h (by simp)
  rw [if_pos g] at h
  simp only [Bool.and_eq_true, isU64_iff] at g
  obtain ⟨⟨⟨⟨⟨⟨⟨g0, g1⟩, g2⟩, g3⟩, g4⟩, g5⟩, g6⟩, g7⟩ := g
  have H := Option.some.inj h
  clear h
  have eg : ∀ args w, (callFunc 76 args).run Try.prog w = .ok (.enter 76 args) w := enters_of Try.func76 (by kernel_rfl) rfl
  have hc := fun W => each_any 76 #[] addF eg a0_0 a0_1 a0_2 a0_3 a1_0 a1_1 a1_2 a1_3 W (fun x y => (0 ≤ x ∧ x < 18446744073709551616) ∧ (0 ≤ y ∧ y < 18446744073709551616)) ⟨g0, g4⟩ ⟨g1, g5⟩ ⟨g2, g6⟩ ⟨g3, g7⟩ (fun W x y h _ => add1 x y W h.1.1 h.1.2 h.2.1 h.2.2)
  rw [H] at hc
  clear H eg g0 g1 g2 g3 g4 g5 g6 g7
  go_enter Try.func27, Try.ntmps27
  go_wp2_with (go_at_call 75; refine (hc _).mono ?_; rintro e w1 ⟨rfl, hb⟩; have B4 := blk_below (blk_new _ (Obj.cells #[Value.int .u64 0, Value.int .u64 0, Value.int .u64 0, Value.int .u64 0] 33)) hb; have HB := Aside0.mk (below_step (below_alloc (below_alloc (below_alloc (Below.refl w.heap.size w) _) _) _) hb); clear hb hc; have k0 := blk_cell B4 0; have k1 := blk_cell B4 1; have k2 := blk_cell B4 2; have k3 := blk_cell B4 3; have f0 := blk_frozen B4 0; have f1 := blk_frozen B4 1; have f2 := blk_frozen B4 2; have f3 := blk_frozen B4 3; have B5 := Aside0.mk B4; clear B4; simp at k0 k1 k2 k3 f0 f1 f2 f3)
  refine bodyPost_ret (results_ct rfl _ _ (w.heap.size + 1 + 1) 33 #[.int .u64 r1, .int .u64 r2, .int .u64 r3, .int .u64 r4] (0, 0) _ rfl (by refine blk_put (cs := #[.int .u64 r1, .int .u64 r2, .int .u64 r3, .int .u64 0]) ?_ 3 _ rfl; refine blk_put (cs := #[.int .u64 r1, .int .u64 r2, .int .u64 0, .int .u64 0]) ?_ 2 _ rfl; refine blk_put (cs := #[.int .u64 r1, .int .u64 0, .int .u64 0, .int .u64 0]) ?_ 1 _ rfl; refine blk_put (cs := #[.int .u64 0, .int .u64 0, .int .u64 0, .int .u64 0]) ?_ 0 _ rfl; exact (by simpa using B5.out)) Try.underlying33 rfl (by kernel_rfl)) rfl ⟨rfl, ?_⟩
  exact below_set (below_set (below_set (below_set HB.out (by omega)) (by omega)) (by omega)) (by omega)

end Go.Proofs.Ytppfkbigeknedaa.Q
