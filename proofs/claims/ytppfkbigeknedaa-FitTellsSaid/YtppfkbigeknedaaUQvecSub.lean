import Derived.Test.YtppfkbigeknedaaUQ0
import Derived.Test.YtppfkbigeknedaaUQveceach
namespace Go.Proofs.Ytppfkbigeknedaa.Q
open Go.RowKit Go.Proofs.YtppfkbigeknedaaW.PrintWords Go.Proofs.YtppfkbigeknedaaW.PrintLast Go.Proofs.YtppfkbigeknedaaW.PrintMore
attribute [local go_sem] max2_int min2_int max_two min_two max_three min_three max_four min_four   -- for this text's walks alone
set_option linter.unusedVariables false
set_option linter.unusedSimpArgs false

attribute [local go_sem] eqe_ii eqe_nn eqe_ni eqe_nni
def subF (x y : Int) : Int × Bool := ((x - y) % 18446744073709551616, decide (y ≤ x))
theorem sub1 (x y : Int) (w : World) :
    Calls Try.prog 78 #[.int .u64 x, .int .u64 y] w fun e w' => e = .returned (.tuple #[.int .u64 (subF x y).1, .bool (subF x y).2]) ∧ w' = w := by
  go_enter Try.func78, Try.ntmps78
  go_wp2
  go_ret2
  exact ⟨by simp [subF, IntKind.wrap_u64], rfl⟩
def vec_Sub.f (a0_0 : Int) (a0_1 : Int) (a0_2 : Int) (a0_3 : Int) (a1_0 : Int) (a1_1 : Int) (a1_2 : Int) (a1_3 : Int) : Option (Int × Int × Int × Int × Option Int) :=
  some (each4 subF a0_0 a0_1 a0_2 a0_3 a1_0 a1_1 a1_2 a1_3)
set_option maxHeartbeats 8000000 in
set_option maxRecDepth 100000 in
theorem vec_Sub.calls (a0_0 : Int) (a0_1 : Int) (a0_2 : Int) (a0_3 : Int) (a1_0 : Int) (a1_1 : Int) (a1_2 : Int) (a1_3 : Int) (r1 r2 r3 r4 : Int) (r5 : Option Int) (w : World) (h : vec_Sub.f a0_0 a0_1 a0_2 a0_3 a1_0 a1_1 a1_2 a1_3 = some (r1, r2, r3, r4, r5)) :
    Calls Try.prog 28 #[.agg #[.int .u64 a0_0, .int .u64 a0_1, .int .u64 a0_2, .int .u64 a0_3], .agg #[.int .u64 a1_0, .int .u64 a1_1, .int .u64 a1_2, .int .u64 a1_3]] w fun e w' => e = .returned (.tuple #[.agg #[.int .u64 r1, .int .u64 r2, .int .u64 r3, .int .u64 r4], errW r5]) ∧ Below w.heap.size w w' := by
  have H := Option.some.inj h
  clear h
  have eg : ∀ args w, (callFunc 78 args).run Try.prog w = .ok (.enter 78 args) w := enters_of Try.func78 (by kernel_rfl) rfl
  have hc := fun W => each_any 78 #[] subF eg a0_0 a0_1 a0_2 a0_3 a1_0 a1_1 a1_2 a1_3 W (fun _ _ => True) trivial trivial trivial trivial (fun W x y _ _ => sub1 x y W)
  rw [H] at hc
  clear H eg
  go_enter Try.func28, Try.ntmps28
  go_wp2_with (go_at_call 75; refine (hc _).mono ?_; rintro e w1 ⟨rfl, hb⟩; have B4 := blk_below (blk_new _ (Obj.cells #[Value.int .u64 0, Value.int .u64 0, Value.int .u64 0, Value.int .u64 0] 33)) hb; have HB := Aside0.mk (below_step (below_alloc (below_alloc (below_alloc (Below.refl w.heap.size w) _) _) _) hb); clear hb hc; have k0 := blk_cell B4 0; have k1 := blk_cell B4 1; have k2 := blk_cell B4 2; have k3 := blk_cell B4 3; have f0 := blk_frozen B4 0; have f1 := blk_frozen B4 1; have f2 := blk_frozen B4 2; have f3 := blk_frozen B4 3; have B5 := Aside0.mk B4; clear B4; simp at k0 k1 k2 k3 f0 f1 f2 f3)
  refine bodyPost_ret (results_ct rfl _ _ (w.heap.size + 1 + 1) 33 #[.int .u64 r1, .int .u64 r2, .int .u64 r3, .int .u64 r4] (0, 0) _ rfl (by refine blk_put (cs := #[.int .u64 r1, .int .u64 r2, .int .u64 r3, .int .u64 0]) ?_ 3 _ rfl; refine blk_put (cs := #[.int .u64 r1, .int .u64 r2, .int .u64 0, .int .u64 0]) ?_ 2 _ rfl; refine blk_put (cs := #[.int .u64 r1, .int .u64 0, .int .u64 0, .int .u64 0]) ?_ 1 _ rfl; refine blk_put (cs := #[.int .u64 0, .int .u64 0, .int .u64 0, .int .u64 0]) ?_ 0 _ rfl; exact (by simpa using B5.out)) Try.underlying33 rfl (by kernel_rfl)) rfl ⟨rfl, ?_⟩
  exact below_set (below_set (below_set (below_set HB.out (by omega)) (by omega)) (by omega)) (by omega)

end Go.Proofs.Ytppfkbigeknedaa.Q
