-- written by a program of this session
import Derived.Test.YtppfkbigeknedaaQ0
import Derived.Test.YtppfkbigeknedaaQveceach
namespace Go.Proofs.Ytppfkbigeknedaa.Q
open Go.RowKit Go.Proofs.YtppfkbigeknedaaW.PrintWords Go.Proofs.YtppfkbigeknedaaW.PrintLast Go.Proofs.YtppfkbigeknedaaW.PrintMore
attribute [local go_sem] max2_int min2_int max_two min_two max_three min_three max_four min_four   -- for this text's walks alone
set_option linter.unusedVariables false
set_option linter.unusedSimpArgs false

attribute [local go_sem] eqe_ii eqe_nn eqe_ni eqe_nni
/-! ### vec_Times: function 40 -/
namespace Mul64
theorem maskN (a : Nat) (ha : a < 18446744073709551616) : bits .and .u64 (a : Int) 4294967295 = ((a % 4294967296 : Nat) : Int) := by
  have h := bits_and_u64_nat a 4294967295 ha (by omega)
  have e : a &&& 4294967295 = a % 4294967296 := Nat.and_two_pow_sub_one_eq_mod a 32
  rw [e] at h
  exact h
theorem divN (a : Nat) : (a : Int) / 4294967296 = ((a / 4294967296 : Nat) : Int) := by omega
theorem mulN (a b : Nat) : (a : Int) * (b : Int) = ((a * b : Nat) : Int) := (Int.natCast_mul a b).symm
theorem addN (a b : Nat) : (a : Int) + (b : Int) = ((a + b : Nat) : Int) := (Int.natCast_add a b).symm
theorem wrapN (a : Nat) (ha : a < 18446744073709551616) : IntKind.u64.wrap (a : Int) = (a : Int) := by rw [IntKind.wrap_u64]; omega
theorem wrapM (a : Nat) : IntKind.u64.wrap (a : Int) = ((a % 18446744073709551616 : Nat) : Int) := by rw [IntKind.wrap_u64]; omega
end Mul64
set_option maxHeartbeats 1000000 in
theorem mul64_any (x y : Nat) (hx : x < 18446744073709551616) (hy : y < 18446744073709551616) (w : World) :
    Calls Try.prog 84 #[.int .u64 x, .int .u64 y] w fun e w' => e = .returned (.tuple #[.int .u64 ((x * y / 18446744073709551616 : Nat) : Int), .int .u64 ((x * y % 18446744073709551616 : Nat) : Int)]) ∧ w' = w := by
  obtain ⟨bd, bt, bw, hhi⟩ := Lib.mul64_hi x y hx hy
  have ba := Lib.half_mul_le (a := x / 4294967296) (b := y / 4294967296) (by omega) (by omega)
  have bb := Lib.half_mul_le (a := x / 4294967296) (b := y % 4294967296) (by omega) (by omega)
  have bc := Lib.half_mul_le (a := x % 4294967296) (b := y / 4294967296) (by omega) (by omega)
  have ba' : x / 4294967296 * (y / 4294967296) < 18446744073709551616 := by omega
  have bb' : x / 4294967296 * (y % 4294967296) < 18446744073709551616 := by omega
  have bc' : x % 4294967296 * (y / 4294967296) < 18446744073709551616 := by omega
  have bh1 : x / 4294967296 * (y / 4294967296) + (x / 4294967296 * (y % 4294967296) + x % 4294967296 * (y % 4294967296) / 4294967296) / 4294967296 < 18446744073709551616 := by omega
  have bh : x / 4294967296 * (y / 4294967296) + (x / 4294967296 * (y % 4294967296) + x % 4294967296 * (y % 4294967296) / 4294967296) / 4294967296 + ((x / 4294967296 * (y % 4294967296) + x % 4294967296 * (y % 4294967296) / 4294967296) % 4294967296 + x % 4294967296 * (y / 4294967296)) / 4294967296 < 18446744073709551616 := by omega
  go_enter Try.func84, Try.ntmps84
  go_wp2
  simp only [Mul64.maskN x hx, Mul64.maskN y hy, Mul64.divN, Mul64.mulN, Mul64.addN, Mul64.wrapN _ bd, Mul64.wrapN _ bb', Mul64.wrapN _ bt, Mul64.maskN _ bt, Mul64.wrapN _ bc', Mul64.wrapN _ bw, Mul64.wrapN _ ba', Mul64.wrapN _ bh1, Mul64.wrapN _ bh, Mul64.wrapM (x * y)]
  rw [hhi]
  go_ret2
  exact ⟨rfl, rfl⟩
def mulF (n x _y : Int) : Int × Bool := ((x * n) % 18446744073709551616, decide (x * n < 18446744073709551616))
theorem times1 (x y n : Int) (B : Nat) (w : World) (hx : 0 ≤ x) (hx' : x < 18446744073709551616) (hy : 0 ≤ n) (hy' : n < 18446744073709551616) (hc : w.cell? ⟨B, 0, none⟩ = some (.int .u64 n)) :
    Calls Try.prog 83 #[.int .u64 x, .int .u64 y, .pointer (some ⟨B, 0, none⟩)] w fun e w' => e = .returned (.tuple #[.int .u64 (mulF n x y).1, .bool (mulF n x y).2]) ∧ w' = w := by
  obtain ⟨a, rfl⟩ := Int.eq_ofNat_of_zero_le hx
  obtain ⟨b, rfl⟩ := Int.eq_ofNat_of_zero_le hy
  have e1 : (((a * b / 18446744073709551616 : Nat) : Int) == 0) = decide (((a : Int) * (b : Int)) < 18446744073709551616) := by
    rw [Bool.eq_iff_iff, ← Int.natCast_mul]; simp only [beq_iff_eq, decide_eq_true_eq]; omega
  have e2 : ((a * b % 18446744073709551616 : Nat) : Int) = ((a : Int) * (b : Int)) % 18446744073709551616 := by rw [← Int.natCast_mul]; omega
  have hm := mul64_any a b (by omega) (by omega)
  obtain ⟨q, hq⟩ : ∃ q, q = a * b / 18446744073709551616 := ⟨_, rfl⟩
  obtain ⟨r, hr⟩ : ∃ r, r = a * b % 18446744073709551616 := ⟨_, rfl⟩
  rw [← hq] at hm e1
  rw [← hr] at hm e2
  have E1 := Aside0.mk e1
  have E2 := Aside0.mk e2
  clear e1 e2 hq hr hx hy hx' hy'
  go_enter Try.func83, Try.ntmps83
  go_wp2_with (go_at_call 84; refine (hm _).mono ?_; rintro e w' ⟨rfl, rfl⟩)
  go_ret2
  exact ⟨by simp only [mulF, ← E1.out, ← E2.out]; rfl, rfl⟩
def vec_Times.f (a0_0 : Int) (a0_1 : Int) (a0_2 : Int) (a0_3 : Int) (a1 : Int) : Option (Int × Int × Int × Int × Option Int) :=
  if (isU64 a0_0 && isU64 a0_1 && isU64 a0_2 && isU64 a0_3 && isU64 a1) = true then some (each4 (mulF a1) a0_0 a0_1 a0_2 a0_3 a0_0 a0_1 a0_2 a0_3) else none
set_option maxHeartbeats 8000000 in
set_option maxRecDepth 100000 in
theorem vec_Times.calls (a0_0 : Int) (a0_1 : Int) (a0_2 : Int) (a0_3 : Int) (a1 : Int) (r1 r2 r3 r4 : Int) (r5 : Option Int) (w : World) (h : vec_Times.f a0_0 a0_1 a0_2 a0_3 a1 = some (r1, r2, r3, r4, r5)) :
    Calls Try.prog 40 #[.agg #[.int .u64 a0_0, .int .u64 a0_1, .int .u64 a0_2, .int .u64 a0_3], .int .u64 a1] w fun e w' => e = .returned (.tuple #[.agg #[.int .u64 r1, .int .u64 r2, .int .u64 r3, .int .u64 r4], errW r5]) ∧ Below w.heap.size w w' := by
  unfold vec_Times.f at h
  by_cases g : (isU64 a0_0 && isU64 a0_1 && isU64 a0_2 && isU64 a0_3 && isU64 a1) = true
  case neg => rw [if_neg g] at h; exact absurd h (by simp)
  rw [if_pos g] at h
  simp only [Bool.and_eq_true, isU64_iff] at g
  obtain ⟨⟨⟨⟨g0, g1⟩, g2⟩, g3⟩, g4⟩ := g
  have H := Option.some.inj h
  clear h
  have eg : ∀ args w, (callFunc 83 args).run Try.prog w = .ok (.enter 83 args) w := enters_of Try.func83 (by kernel_rfl) rfl
  have hc := fun W (hB : W.cell? ⟨w.heap.size + 1, 0, none⟩ = some (.int .u64 a1)) => each_any 83 #[.pointer (some ⟨w.heap.size + 1, 0, none⟩)] (mulF a1) eg a0_0 a0_1 a0_2 a0_3 a0_0 a0_1 a0_2 a0_3 W (fun x _ => 0 ≤ x ∧ x < 18446744073709551616) g0 g1 g2 g3 (fun W2 x y h hb => times1 x y a1 (w.heap.size + 1) W2 h.1 h.2 g4.1 g4.2 ((hb.cell (p := ⟨w.heap.size + 1, 0, none⟩) (World.block_lt_of_cell? W _ hB)).trans hB))
  rw [H] at hc
  clear H eg g0 g1 g2 g3 g4
  go_enter Try.func40, Try.ntmps40
  go_wp2_with (go_at_call 75; refine (hc _ ?hB).mono ?_; (case hB => (go_simp; done)); rintro e w1 ⟨rfl, hb⟩; have B4 := blk_below (blk_new _ (Obj.cells #[Value.int .u64 0, Value.int .u64 0, Value.int .u64 0, Value.int .u64 0] 33)) hb; have HB := Aside0.mk (below_step (below_alloc (below_alloc (below_alloc (Below.refl w.heap.size w) _) _) _) hb); clear hb hc; have k0 := blk_cell B4 0; have k1 := blk_cell B4 1; have k2 := blk_cell B4 2; have k3 := blk_cell B4 3; have f0 := blk_frozen B4 0; have f1 := blk_frozen B4 1; have f2 := blk_frozen B4 2; have f3 := blk_frozen B4 3; have B5 := Aside0.mk B4; clear B4; simp at k0 k1 k2 k3 f0 f1 f2 f3)
  refine bodyPost_ret (results_ct rfl _ _ (w.heap.size + 1 + 1) 33 #[.int .u64 r1, .int .u64 r2, .int .u64 r3, .int .u64 r4] (0, 0) _ rfl (by refine blk_put (cs := #[.int .u64 r1, .int .u64 r2, .int .u64 r3, .int .u64 0]) ?_ 3 _ rfl; refine blk_put (cs := #[.int .u64 r1, .int .u64 r2, .int .u64 0, .int .u64 0]) ?_ 2 _ rfl; refine blk_put (cs := #[.int .u64 r1, .int .u64 0, .int .u64 0, .int .u64 0]) ?_ 1 _ rfl; refine blk_put (cs := #[.int .u64 0, .int .u64 0, .int .u64 0, .int .u64 0]) ?_ 0 _ rfl; exact (by simpa using B5.out)) Try.underlying33 rfl (by kernel_rfl)) rfl ⟨rfl, ?_⟩
  exact below_set (below_set (below_set (below_set HB.out (by omega)) (by omega)) (by omega)) (by omega)

end Go.Proofs.Ytppfkbigeknedaa.Q
