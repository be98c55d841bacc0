/- The statement Rows.FitTellsSaid: whatever the input, the law returns true and each argument reads as it did. No condition. By this session's program (gen_row.py), after the guide's row. -/
import Derived.Test.YtppfkbigeknedaaRows
import Derived.Test.YtppfkbigeknedaaUOpen
import Derived.Test.YtppfkbigeknedaaUStatFitTells
import Derived.Test.YtppfkbigeknedaaUPureFitTells
import Derived.WalkKit
import Derived.ProofKit
import Derived.OpenShut
import Derived.ShutString
import Derived.ChangeOld
import Derived.Below
import Derived.SizedLaws
import Derived.WideShapes
namespace Go.Proofs.Ytppfkbigeknedaa.fitTells
open Go.ChangeShapes Go.WideShapes Go.ChangeAt Go.RowKit Go.Proofs.Ytppfkbigeknedaa.Q
set_option linter.unusedVariables false
theorem own : ownKnob Try.prog.godebug = none := by kernel_rfl
theorem laidOut : laidOutB Try.prog = true := by kernel_rfl
theorem okWide_array {P : Program} {w : World} {r : Reach} {base : Nat} {t e : TypeId} {n : Nat} {v : Value} (ht : P.underlying t = some (.array n e)) (h : Value.okWide P w r base t v) : ∃ cs, v = .agg cs ∧ cs.size = P.cellsOf t := by
  unfold Value.okWide at h
  rw [ht] at h
  obtain ⟨cs, h1, h2, _⟩ := h
  exact ⟨cs, h1, h2⟩
set_option maxRecDepth 100000 in
theorem lifted (os : Os) (started : os.Started) (H : Type) (enc : TypeId × Value → H) :
    ReturnsInHanded {} Try.checked os 16 .any (Rows.fitTellsSpec.pre6 enc Try.prog Try.f16 Rows.fitTellsRow.domain false) (Rows.fitTellsSpec.post enc Try.prog Try.f16 false true false false) := by
  refine returnsInHanded_of_change_sized (C := Try.checked) own started (by kernel_rfl) Try.func16
    (ChangeSpec.witness6 (enc := enc) (C := Try.checked) false ⟨#[], #[.agg #[.slice none 0 0, .slice none 0 0, .slice none 0 0], .agg #[.slice none 0 0, .int .i64 0, .int .i64 0], .agg #[.int .u64 0, .int .u64 0, .int .u64 0, .int .u64 0], .agg #[.int .u64 0, .int .u64 0, .int .u64 0, .int .u64 0]], []⟩ 8 (by kernel_rfl) (by kernel_rfl) (by kernel_rfl) (by kernel_rfl)) ?_
  intro W base args ds gs before hval0 hW hcnd hsz0 _
  have hval : ∀ (j : Nat) t v, Try.f16.params[j]? = some t → args[j]? = some v → Value.okWide Try.prog W .any base t v := hval0
  have hW' := hW
  obtain ⟨p, q, hA0, hV, rfl, hfz, hnd⟩ := hW
  have hA : DataW.TrodAll enc Try.prog W 0 (fun _ => true) true Try.f16.params.toList args.toList ds p := hA0
  rw [Try.params16] at hA hval
  obtain ⟨v0, vs0, d0, ds0, p0, q0, hargs, rfl, rfl, h0, r0⟩ := trodAll_cons hA
  obtain ⟨v1, vs1, d1, ds1, p1, q1, rfl, rfl, rfl, h1, r1⟩ := trodAll_cons r0
  obtain ⟨v2, vs2, d2, ds2, p2, q2, rfl, rfl, rfl, h2, r2⟩ := trodAll_cons r1
  obtain ⟨v3, vs3, d3, ds3, p3, q3, rfl, rfl, rfl, h3, r3⟩ := trodAll_cons r2
  obtain ⟨rfl, rfl, rfl⟩ := trodAll_nil r3
  obtain rfl : args = #[v0, v1, v2, v3] := by cases args; simp_all
  obtain ⟨rfl, rfl⟩ := trodVars_none hV
  obtain ⟨cs0, rfl, _⟩ := okWide_struct Try.underlying96 (hval 0 96 v0 rfl rfl)
  have k0 := h0
  have lt0 : ∀ x ∈ p0, x.block < W.heap.size := by obtain ⟨m, hm⟩ := k0; exact DataW.trod_lt m _ _ _ hm
  obtain ⟨fuel0, hf0⟩ := h0
  obtain ⟨x0, K0, ok0⟩ := opens96 W hf0
  obtain ⟨A0_0, c0_0, A0_1, c0_1, A0_2, c0_2, ecs0, hc0_0, hr0_0, hc0_1, hr0_1, hc0_2, hr0_2⟩ := k96_open K0
  obtain rfl : cs0 = #[.slice A0_0 x0.f0.length c0_0, .slice A0_1 x0.f1.length c0_1, .slice A0_2 x0.f2.length c0_2] := by
    cases cs0 with
    | mk l => exact congrArg Array.mk ecs0
  obtain ⟨cs1, rfl, _⟩ := okWide_struct Try.underlying26 (hval 1 26 v1 rfl rfl)
  have k1 := h1
  have lt1 : ∀ x ∈ p1, x.block < W.heap.size := by obtain ⟨m, hm⟩ := k1; exact DataW.trod_lt m _ _ _ hm
  obtain ⟨fuel1, hf1⟩ := h1
  obtain ⟨x1, K1, ok1⟩ := opens26 W hf1
  obtain ⟨A1_0, c1_0, ecs1, hc1_0, hr1_0⟩ := k26_open K1
  obtain rfl : cs1 = #[.slice A1_0 x1.f0.length c1_0, .int .i64 x1.f1, .int .i64 x1.f2] := by
    cases cs1 with
    | mk l => exact congrArg Array.mk ecs1
  obtain ⟨cs2, rfl, _⟩ := okWide_array Try.underlying33 (hval 2 33 v2 rfl rfl)
  have k2 := h2
  have lt2 : ∀ x ∈ p2, x.block < W.heap.size := by obtain ⟨m, hm⟩ := k2; exact DataW.trod_lt m _ _ _ hm
  obtain ⟨fuel2, hf2⟩ := h2
  obtain ⟨x2, K2, ok2⟩ := opens33 W hf2
  have ecs2 := k33_open K2
  obtain rfl : cs2 = #[.int .u64 x2.f0, .int .u64 x2.f1, .int .u64 x2.f2, .int .u64 x2.f3] := by
    cases cs2 with
    | mk l => exact congrArg Array.mk ecs2
  obtain ⟨cs3, rfl, _⟩ := okWide_array Try.underlying33 (hval 3 33 v3 rfl rfl)
  have k3 := h3
  have lt3 : ∀ x ∈ p3, x.block < W.heap.size := by obtain ⟨m, hm⟩ := k3; exact DataW.trod_lt m _ _ _ hm
  obtain ⟨fuel3, hf3⟩ := h3
  obtain ⟨x3, K3, ok3⟩ := opens33 W hf3
  have ecs3 := k33_open K3
  obtain rfl : cs3 = #[.int .u64 x3.f0, .int .u64 x3.f1, .int .u64 x3.f2, .int .u64 x3.f3] := by
    cases cs3 with
    | mk l => exact congrArg Array.mk ecs3
  clear hA0 hval0 hsz0
  obtain ⟨k, hp⟩ := pureFitTells x0 x1 x2 x3 ok0 ok1 ok2 ok3
  refine (dunnagelaw14_FitTells.calls k _ _ x0.f0 _ _ x0.f1 _ _ x0.f2 _ _ x1.f0 x1.f1 x1.f2 x2.f0 x2.f1 x2.f2 x2.f3 x3.f0 x3.f1 x3.f2 x3.f3 true W hr0_0 hc0_0 hr0_1 hc0_1 hr0_2 hc0_2 hr1_0 hc1_0 hp).mono fun e W' ⟨he, bel⟩ => ?_
  subst he
  exact ⟨_, rfl, _, _, _, [], _, [], hW', trodAll_mk1 (shut_bool Try.underlying4 _), (trodAll_cons_mk (Below.trod laidOut (by kernel_rfl) (of_decide_eq_true (by kernel_rfl)) k0 bel lt0) (trodAll_cons_mk (Below.trod laidOut (by kernel_rfl) (of_decide_eq_true (by kernel_rfl)) k1 bel lt1) (trodAll_cons_mk (Below.trod laidOut (by kernel_rfl) (of_decide_eq_true (by kernel_rfl)) k2 bel lt2) (trodAll_cons_mk (Below.trod laidOut (by kernel_rfl) (of_decide_eq_true (by kernel_rfl)) k3 bel lt3) trodAll_mk0)))), rfl, bel.frame _, fun h => by cases h⟩
theorem over : Rows.fitTellsRow.holds Try.pinned (OpenSpec.ofChange Rows.fitTellsSpec) :=
  OpenClaim.holds_of_wide 16 Try.f16 rfl rfl rfl rfl rfl rfl rfl ⟨rfl, rfl, rfl, rfl, rfl⟩ rfl rfl rfl rfl rfl (by kernel_rfl) Try.func16 (by kernel_rfl)
    (of_decide_eq_true (by kernel_rfl)) (by unfold Func.isWrapper; first | (rw [if_pos (by decide +kernel)]; kernel_rfl) | (rw [if_neg (by decide +kernel)]; exact ⟨rfl, rfl⟩))
    (fun os started H enc _ => lifted os started H enc)
end Go.Proofs.Ytppfkbigeknedaa.fitTells
namespace Go.Proofs.Ytppfkbigeknedaa
theorem fitTells_holds : Rows.FitTellsSaid := fitTells.over
end Go.Proofs.Ytppfkbigeknedaa
