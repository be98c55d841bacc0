import Derived.Test.YtppfkbigeknedaaKQ0
import Derived.Test.YtppfkbigeknedaaKQdunnageref02Get
import Derived.Test.YtppfkbigeknedaaKQdunnageref22read
namespace Go.Proofs.Ytppfkbigeknedaa.Q
open Go.RowKit Go.Proofs.YtppfkbigeknedaaW.PrintWords Go.Proofs.YtppfkbigeknedaaW.PrintLast Go.Proofs.YtppfkbigeknedaaW.PrintMore
attribute [local go_sem] max2_int min2_int max_two min_two max_three min_three max_four min_four   -- for this text's walks alone
set_option linter.unusedVariables false
set_option linter.unusedSimpArgs false

attribute [local go_sem] eqe_ii eqe_nn eqe_ni eqe_nni
namespace FoldQdunnageref22Read
theorem F1_ {p : Prop} (h : p := by repeat (first | (with_reducible first | exact HB.out | apply below_alloc | apply pw_below_drewN | apply below_drew1) | exact HB.out)) : p := h
theorem F2_ {p : Prop} (h : p := by first | (with_reducible assumption) | assumption) : p := h
theorem F3_ {p : Prop} (h : p := by (with_reducible repeat (first | apply Kd.S_alloc | apply Kd.S_drewN | apply Kd.S_drew)); exact HO_4.out) : p := h
theorem F4_ {p : Prop} (h : p := by (try simp only [List.map_toArray, List.map_cons, List.map_nil]); first | done | (rw [show (l0.drop (x5_1 : Int).toNat).length = (l0.length - x5_1.toNat) from List.length_drop] <;> rfl) | rfl | (simp only [List.length_drop, List.length_take]; rfl)) : p := h
theorem F5_ {p : Prop} (h : p := by repeat (first | exact (Kd.C_below HR101.out HB.out) | (with_reducible refine Kd.C_alloc ?_ _) | (with_reducible refine Kd.C_drewN ?_ _) | (with_reducible refine Kd.C_drew ?_))) : p := h
theorem F6_ {p : Prop} (h : p := by (try simp only [List.map_toArray, List.map_cons, List.map_nil]); first | done | (rw [show ((l0.take ((wrap64 ((ji13) + (wrap64 (rd t102 0)))) : Int).toNat).drop ((ji13) : Int).toNat).length = ((wrap64 ((ji13) + (wrap64 (rd t102 0)))).toNat - (ji13).toNat) from (by rw [List.length_drop, List.length_take]; have h_ : ((wrap64 ((ji13) + (wrap64 (rd t102 0)))) : Int) ≤ (l0.length : Int) := of_decide_eq_true F2_; omega)] <;> rfl) | (simp only [hji13]; rfl) | rfl | (simp only [List.length_drop, List.length_take]; rfl)) : p := h
theorem F7_ {p : Prop} (h : p := by (with_reducible repeat (first | apply Kd.R_alloc | apply Kd.R_drewN | apply Kd.R_drew)); exact HO106.out) : p := h
theorem F8_ {p : Prop} (h : p := by repeat (first | (with_reducible first | exact HB.out | apply below_alloc | apply pw_below_drewN | apply below_drew1 | refine below_set ?_ GE116.out) | exact HB.out)) : p := h
theorem F9_ {p : Prop} (h : p := by repeat (first | (with_reducible first | exact HB.out | apply below_alloc | apply pw_below_drewN | apply below_drew1) | exact HB.out)) : p := h
end FoldQdunnageref22Read
open FoldQdunnageref22Read
def dunnageref22_Read.l0 : Nat → List Int → List (S60) → Int → Option ((List (S60)) × Int)
  | 0, _, _, _ => none
  | k + 1, x0, x4, x5 => if 0 ≤ x5 then (if x5 ≤ (x0.length : Int) then ((dunnageref02_Get.f k (x0.drop (x5 : Int).toNat) 1).bind fun bt102 => (if bt102.2.2 ≥ 0 then (some (x4, x5)) else (if 0 < (bt102.1.length : Int) then (if (rd bt102.1 0) > (IntKind.u64.wrap (wrap64 ((wrap64 ((x0.length : Int) - x5)) - bt102.2.1))) then (some (x4, x5)) else (if 0 ≤ (wrap64 (x5 + bt102.2.1)) then (if (wrap64 (x5 + bt102.2.1)) ≤ (wrap64 ((wrap64 (x5 + bt102.2.1)) + (wrap64 (rd bt102.1 0)))) then (if (wrap64 ((wrap64 (x5 + bt102.2.1)) + (wrap64 (rd bt102.1 0)))) ≤ (x0.length : Int) then ((dunnageref22_read.f k ((x0.take ((wrap64 ((wrap64 (x5 + bt102.2.1)) + (wrap64 (rd bt102.1 0)))) : Int).toNat).drop ((wrap64 (x5 + bt102.2.1)) : Int).toNat)).bind fun bt110 => (if bt110.2.2.2 = true then (if x4.length < 3518437208883 then (dunnageref22_Read.l0 k x0 (x4 ++ [(⟨bt110.1, bt110.2.1, bt110.2.2.1⟩ : S60)]) (wrap64 ((wrap64 (x5 + bt102.2.1)) + (wrap64 (rd bt102.1 0))))) else (none)) else (some (x4, x5)))) else (none)) else (none)) else (none))) else (none)))) else (none)) else (none)
def dunnageref22_Read.f (k : Nat) (l0 : List Int) : Option ((List (S60)) × Int) := dunnageref22_Read.l0 k l0 ([] : List (S60)) 0
theorem dunnageref22_Read.mono_l : ∀ k, (∀ y0 y1 y2, LeO (dunnageref22_Read.l0 k y0 y1 y2) (dunnageref22_Read.l0 (k + 1) y0 y1 y2))
  | 0 => fun _ _ _ r h => by simp [dunnageref22_Read.l0] at h
  | k + 1 => by
    have ih0 := dunnageref22_Read.mono_l k
    · intro y0 y1 y2
      unfold dunnageref22_Read.l0
      repeat' first
      | (with_reducible exact ih0 _ _ _)
      | (with_reducible exact dunnageref02_Get.mono _ _ _)
      | (with_reducible exact dunnageref22_read.mono _ _)
      | (with_reducible exact LeO.refl _)
      | (with_reducible exact LeO.none _)
      | (with_reducible refine LeO.ite ?_ ?_)
      | (with_reducible refine LeO.bind ?_ (fun _ => ?_))
      | exact ih0 _ _ _
      | exact dunnageref02_Get.mono _ _ _
      | exact dunnageref22_read.mono _ _
      | exact LeO.none _
      | refine LeO.ite ?_ ?_
      | refine LeO.bind ?_ (fun _ => ?_)
theorem dunnageref22_Read.mono : ∀ a0 k, LeO (dunnageref22_Read.f k a0) (dunnageref22_Read.f (k + 1) a0) := by
  intro a0 k
  have ih0 := dunnageref22_Read.mono_l k
  unfold dunnageref22_Read.f
  repeat' first
      | (with_reducible exact ih0 _ _ _)
      | (with_reducible exact dunnageref02_Get.mono _ _ _)
      | (with_reducible exact dunnageref22_read.mono _ _)
      | (with_reducible exact LeO.refl _)
      | (with_reducible exact LeO.none _)
      | (with_reducible refine LeO.ite ?_ ?_)
      | (with_reducible refine LeO.bind ?_ (fun _ => ?_))
      | exact ih0 _ _ _
      | exact dunnageref02_Get.mono _ _ _
      | exact dunnageref22_read.mono _ _
      | exact LeO.none _
      | refine LeO.ite ?_ ?_
      | refine LeO.bind ?_ (fun _ => ?_)
set_option maxHeartbeats 8000000 in
set_option maxRecDepth 100000 in
theorem dunnageref22_Read.calls (k : Nat) (A0 : Option Addr) (c0 : Nat) (l0 : List Int) (r1 : List (S60)) (r2 : Int) (w : World) (hr0 : Kd.C (Kd.int .u8) w A0 l0.length l0) (hc0 : l0.length ≤ c0) (h : dunnageref22_Read.f k l0 = some (r1, r2)) :
    Calls Try.prog 100 #[.slice A0 l0.length c0] w fun e w' => ∃ v0_ : Value, e = .returned (.tuple #[v0_, .int .i64 r2]) ∧ Kd.S k60 60 w' w.heap.size (fun _ => True) v0_ r1 ∧ Below w.heap.size w w' := by
  have hu60 := Try.underlying60
  have HR0 := Aside0.mk hr0
  have HC0 := Aside0.mk hc0
  clear hr0 hc0
  have HB := Aside0.mk (Below.refl w.heap.size w)
  have H : (dunnageref22_Read.l0 k l0 ([] : List (S60)) 0) = some (r1, r2) := h
  clear h
  have H' := Aside0.mk H
  clear H
  go_enter Try.func100, Try.ntmps100
  go_wp2
  go_loopg [4, 5] k (fun kq v4 v5 w' => ∃ (x4_1 : List (S60)) (x5_1 : Int), v5 = .int .i64 x5_1 ∧ Aside0 (dunnageref22_Read.l0 kq l0 x4_1 x5_1 = some (r1, r2)) ∧ Aside0 (kq ≤ k) ∧ Aside0 (Kd.S k60 60 w' w.heap.size (fun _ => True) v4 x4_1) ∧ Aside0 (Below w.heap.size w w'))
  case atStart => exact ⟨(([] : List (S60))), (0), (by first | rfl | (simp; done) | (simp [*]; done)), H', ⟨Nat.le_refl _⟩, ⟨by first | exact Kd.S_nil _ _ _ _ _ | exact Kd.N_nil _ _ _ _ _ | exact Kd.V_nil _ _ _ _ _ | exact Kd.Q_nil _ _ _ _ _ | exact Kd.R_nil _ _ _ _ _⟩, ⟨F9_⟩⟩
  case round =>
    clear H'
    try clear c1
    obtain ⟨x4_1, x5_1, rfl, HA, HK1, HO_4, HB⟩ := hrel
    cases gk with
    | zero => exact absurd HA.out (by simp [dunnageref22_Read.l0])
    | succ k1 =>
      have H := HA.out
      clear HA
      simp only [dunnageref22_Read.l0] at H
      by_cases c2 : 0 ≤ x5_1
      · rw [if_pos c2] at H
        have c2b0 := eq_true c2
        have c2b1 : decide (0 ≤ x5_1) = true := decide_eq_true c2
        clear c2
        by_cases c3 : x5_1 ≤ (l0.length : Int)
        · rw [if_pos c3] at H
          have c3b0 := eq_true c3
          have c3b1 : decide (x5_1 ≤ (l0.length : Int)) = true := decide_eq_true c3
          clear c3
          replace H := Option.bind_eq_some_iff.mp H
          obtain ⟨⟨t102, t103, t104⟩, A40, H⟩ := H
          replace H : (if t104 ≥ 0 then (some (x4_1, x5_1)) else (if 0 < (t102.length : Int) then (if (rd t102 0) > (IntKind.u64.wrap (wrap64 ((wrap64 ((l0.length : Int) - x5_1)) - t103))) then (some (x4_1, x5_1)) else (if 0 ≤ (wrap64 (x5_1 + t103)) then (if (wrap64 (x5_1 + t103)) ≤ (wrap64 ((wrap64 (x5_1 + t103)) + (wrap64 (rd t102 0)))) then (if (wrap64 ((wrap64 (x5_1 + t103)) + (wrap64 (rd t102 0)))) ≤ (l0.length : Int) then ((dunnageref22_read.f k1 ((l0.take ((wrap64 ((wrap64 (x5_1 + t103)) + (wrap64 (rd t102 0)))) : Int).toNat).drop ((wrap64 (x5_1 + t103)) : Int).toNat)).bind fun bt110 => (if bt110.2.2.2 = true then (if x4_1.length < 3518437208883 then (dunnageref22_Read.l0 k1 l0 (x4_1 ++ [(⟨bt110.1, bt110.2.1, bt110.2.2.1⟩ : S60)]) (wrap64 ((wrap64 (x5_1 + t103)) + (wrap64 (rd t102 0))))) else (none)) else (some (x4_1, x5_1)))) else (none)) else (none)) else (none))) else (none))) = some (r1, r2) := H
          have A4 := Aside0.mk A40
          clear A40
          by_cases c5 : t104 ≥ 0
          · rw [if_pos c5] at H
            have c5b0 : decide (0 ≤ t104) = true := decide_eq_true c5
            clear c5
            simp only [Option.some.injEq, Prod.mk.injEq] at H
            obtain ⟨rfl, rfl⟩ := H
            obtain ⟨i06, hi06, _, hsz6, _⟩ := info_parts info5
            obtain ⟨A6, hcut6, hA6, hC6⟩ := print_drop_of (P := Try.prog) (Value.int .u8) 0 46 5 .i64 Try.underlying46 hi06 hsz6 A0 c0 l0 x5_1 (of_decide_eq_true F2_) (of_decide_eq_true F2_) HC0.out
            have HR101 := Aside0.mk (Kd.C_of_reads (h1 := fun _ => rfl) (hA6 _ (Kd.reads_of_C HR0.out)))
            have HC101 := Aside0.mk hC6
            clear hA6 hC6 hi06 hsz6
            go_wp2_with (first | ((with_reducible refine gate_callee (f := 127) rfl ?_); refine goesL_ (some 16) rfl rfl Try.func127 (by kernel_rfl) rfl #[.slice A6 (l0.drop (x5_1 : Int).toNat).length (c0 - x5_1.toNat), .int .i64 1] rfl F4_ ?_; (with_reducible refine (dunnageref02_Get.calls k1 _ _ (l0.drop (x5_1 : Int).toNat) 1 t102 t103 t104 _ ?side1 ?side2 A4.out).mono ?_); (case side1 => exact F5_); (case side2 => exact HC101.out); rintro e w7 ⟨v105, rfl, ho0, hb⟩; refine ⟨_, rfl, ?_⟩; have n0_ := Aside0.mk (Kd.S_below F3_ hb); have n1_ := Aside0.mk (Kd.R_lower ho0 (below_size F1_)); have n2_ := Aside0.mk (below_step F1_ hb); clear HO_4; clear HB; have HO_4 := n0_; have HO106 := n1_; have HB := n2_; clear n0_ n1_ n2_; (try clear hb); (try clear hb2); (try clear hk); (try clear hi); (try clear ho0)))
            go_ret2
            exact ⟨_, by first | rfl | (simp [errW_none, errW_some] <;> rfl) | (simp [*, errW_none, errW_some] <;> rfl), by (with_reducible repeat (first | apply Kd.S_alloc | apply Kd.S_drewN | apply Kd.S_drew)); exact HO_4.out, F9_⟩
          · rw [if_neg c5] at H
            have c5b0 : decide (0 ≤ t104) = false := decide_eq_false c5
            clear c5
            by_cases c8 : 0 < (t102.length : Int)
            · rw [if_pos c8] at H
              have c8b0 : decide (0 < (t102.length : Int)) = true := decide_eq_true c8
              have c8b1 : decide (0 < t102.length) = true := decide_eq_true (by omega)
              clear c8
              by_cases c9 : (rd t102 0) > (IntKind.u64.wrap (wrap64 ((wrap64 ((l0.length : Int) - x5_1)) - t103)))
              · rw [if_pos c9] at H
                have c9b0 : decide ((IntKind.u64.wrap (wrap64 ((wrap64 ((l0.length : Int) - x5_1)) - t103))) < (rd t102 0)) = true := decide_eq_true c9
                clear c9
                simp only [Option.some.injEq, Prod.mk.injEq] at H
                obtain ⟨rfl, rfl⟩ := H
                obtain ⟨i010, hi010, _, hsz10, _⟩ := info_parts info5
                obtain ⟨A10, hcut10, hA10, hC10⟩ := print_drop_of (P := Try.prog) (Value.int .u8) 0 46 5 .i64 Try.underlying46 hi010 hsz10 A0 c0 l0 x5_1 (of_decide_eq_true F2_) (of_decide_eq_true F2_) HC0.out
                have HR101 := Aside0.mk (Kd.C_of_reads (h1 := fun _ => rfl) (hA10 _ (Kd.reads_of_C HR0.out)))
                have HC101 := Aside0.mk hC10
                clear hA10 hC10 hi010 hsz10
                go_wp2_with (first | ((with_reducible refine gate_callee (f := 127) rfl ?_); refine goesL_ (some 16) rfl rfl Try.func127 (by kernel_rfl) rfl #[.slice A10 (l0.drop (x5_1 : Int).toNat).length (c0 - x5_1.toNat), .int .i64 1] rfl F4_ ?_; (with_reducible refine (dunnageref02_Get.calls k1 _ _ (l0.drop (x5_1 : Int).toNat) 1 t102 t103 t104 _ ?side1 ?side2 A4.out).mono ?_); (case side1 => exact F5_); (case side2 => exact HC101.out); rintro e w11 ⟨v105, rfl, ho0, hb⟩; refine ⟨_, rfl, ?_⟩; have n0_ := Aside0.mk (Kd.S_below F3_ hb); have n1_ := Aside0.mk (Kd.R_lower ho0 (below_size F1_)); have n2_ := Aside0.mk (below_step F1_ hb); clear HO_4; clear HB; have HO_4 := n0_; have HO106 := n1_; have HB := n2_; clear n0_ n1_ n2_; (try clear hb); (try clear hb2); (try clear hk); (try clear hi); (try clear ho0); obtain ⟨Ao12, co12, eo12⟩ := Kd.R_slice HO106.out; subst eo12; have p107 : 0 ≤ (0 : Int) := (by omega); have q107 : 0 < (t102.length : Int) := of_decide_eq_true F2_; obtain ⟨ad107, e107, hx107_0⟩ := Kd.at_int (Kd.R_reads' HO106.out).2.2 0 p107 q107; cases e107; have qi107 : (0 < t102.length) = True := eq_true (by omega); (try rw [show ((0 : Int)).toNat = 0 from rfl] at hx107_0); (try rw [Addr.add_zero'] at hx107_0); replace p107 := eq_true p107; replace q107 := eq_true q107))
                go_ret2
                exact ⟨_, by first | rfl | (simp [errW_none, errW_some] <;> rfl) | (simp [*, errW_none, errW_some] <;> rfl), by (with_reducible repeat (first | apply Kd.S_alloc | apply Kd.S_drewN | apply Kd.S_drew)); exact HO_4.out, F9_⟩
              · rw [if_neg c9] at H
                have c9b0 : decide ((IntKind.u64.wrap (wrap64 ((wrap64 ((l0.length : Int) - x5_1)) - t103))) < (rd t102 0)) = false := decide_eq_false c9
                clear c9
                obtain ⟨ji13, hji13⟩ : ∃ j_ : Int, (wrap64 (x5_1 + t103)) = j_ := ⟨_, rfl⟩
                replace H : (if 0 ≤ (ji13) then (if (ji13) ≤ (wrap64 ((ji13) + (wrap64 (rd t102 0)))) then (if (wrap64 ((ji13) + (wrap64 (rd t102 0)))) ≤ (l0.length : Int) then ((dunnageref22_read.f k1 ((l0.take ((wrap64 ((ji13) + (wrap64 (rd t102 0)))) : Int).toNat).drop ((ji13) : Int).toNat)).bind fun bt110 => (if bt110.2.2.2 = true then (if x4_1.length < 3518437208883 then (dunnageref22_Read.l0 k1 l0 (x4_1 ++ [(⟨bt110.1, bt110.2.1, bt110.2.2.1⟩ : S60)]) (wrap64 ((ji13) + (wrap64 (rd t102 0))))) else (none)) else (some (x4_1, x5_1)))) else (none)) else (none)) else (none)) = some (r1, r2) := by first | (rw [hji13] at H; exact H) | (simp only [hji13] at H ⊢; exact H)
                (try rw [hji13] at A4)
                have hji13w : (IntKind.i64.wrap (x5_1 + t103)) = ji13 := (i64_w _).trans hji13
                by_cases c14 : 0 ≤ (ji13)
                · rw [if_pos c14] at H
                  have c14b0 := eq_true c14
                  have c14b1 : decide (0 ≤ (ji13)) = true := decide_eq_true c14
                  clear c14
                  by_cases c15 : (ji13) ≤ (wrap64 ((ji13) + (wrap64 (rd t102 0))))
                  · rw [if_pos c15] at H
                    have c15b0 := eq_true c15
                    have c15b1 : decide ((ji13) ≤ (wrap64 ((ji13) + (wrap64 (rd t102 0))))) = true := decide_eq_true c15
                    by_cases c16 : (wrap64 ((ji13) + (wrap64 (rd t102 0)))) ≤ (l0.length : Int)
                    · rw [if_pos c16] at H
                      have c16b0 := eq_true c16
                      have c16b1 : decide ((wrap64 ((ji13) + (wrap64 (rd t102 0)))) ≤ (l0.length : Int)) = true := decide_eq_true c16
                      replace H := Option.bind_eq_some_iff.mp H
                      obtain ⟨⟨t110, t111, t112, t115⟩, A170, H⟩ := H
                      replace H : (if t115 = true then (if x4_1.length < 3518437208883 then (dunnageref22_Read.l0 k1 l0 (x4_1 ++ [(⟨t110, t111, t112⟩ : S60)]) (wrap64 ((ji13) + (wrap64 (rd t102 0))))) else (none)) else (some (x4_1, x5_1))) = some (r1, r2) := H
                      have A17 := Aside0.mk A170
                      clear A170
                      by_cases c18 : t115 = true
                      · subst c18
                        have H1 : (if x4_1.length < 3518437208883 then (dunnageref22_Read.l0 k1 l0 (x4_1 ++ [(⟨t110, t111, t112⟩ : S60)]) (wrap64 ((ji13) + (wrap64 (rd t102 0))))) else (none)) = some (r1, r2) := by rw [if_pos rfl] at H; exact H
                        clear H
                        have H := H1
                        clear H1
                        by_cases c19 : x4_1.length < 3518437208883
                        · rw [if_pos c19] at H
                          have LMc19 := Aside0.mk c19
                          clear c19
                          obtain ⟨y117, hy117⟩ : ∃ y_ : List (S60), y_ = (x4_1 ++ [(⟨t110, t111, t112⟩ : S60)]) := ⟨_, rfl⟩
                          replace H : (dunnageref22_Read.l0 k1 l0 y117 (wrap64 ((ji13) + (wrap64 (rd t102 0))))) = some (r1, r2) := by first | (rw [hy117]; with_reducible exact H) | (have H2_ := (Option.bind_some _ _).symm.trans H; rw [hy117]; with_reducible exact H2_) | (have H2_ := (Option.bind_some _ _).symm.trans H; with_reducible exact H2_) | with_reducible exact H | (rw [hy117]; exact H) | exact H
                          have Ny117 := Aside0.mk hy117
                          clear hy117
                          have H' := Aside0.mk H
                          clear H
                          obtain ⟨i020, hi020, _, hsz20, _⟩ := info_parts info5
                          obtain ⟨A20, hcut20, hA20, hC20⟩ := print_drop_of (P := Try.prog) (Value.int .u8) 0 46 5 .i64 Try.underlying46 hi020 hsz20 A0 c0 l0 x5_1 (of_decide_eq_true F2_) (of_decide_eq_true F2_) HC0.out
                          have HR101 := Aside0.mk (Kd.C_of_reads (h1 := fun _ => rfl) (hA20 _ (Kd.reads_of_C HR0.out)))
                          have HC101 := Aside0.mk hC20
                          clear hA20 hC20 hi020 hsz20
                          go_wp2_with (first | ((with_reducible refine gate_callee (f := 127) rfl ?_); refine goesL_ (some 16) rfl rfl Try.func127 (by kernel_rfl) rfl #[.slice A20 (l0.drop (x5_1 : Int).toNat).length (c0 - x5_1.toNat), .int .i64 1] rfl F4_ ?_; (with_reducible refine (dunnageref02_Get.calls k1 _ _ (l0.drop (x5_1 : Int).toNat) 1 t102 t103 t104 _ ?side1 ?side2 A4.out).mono ?_); (case side1 => exact F5_); (case side2 => exact HC101.out); rintro e w21 ⟨v105, rfl, ho0, hb⟩; refine ⟨_, rfl, ?_⟩; have n0_ := Aside0.mk (Kd.S_below F3_ hb); have n1_ := Aside0.mk (Kd.R_lower ho0 (below_size F1_)); have n2_ := Aside0.mk (below_step F1_ hb); clear HO_4; clear HB; have HO_4 := n0_; have HO106 := n1_; have HB := n2_; clear n0_ n1_ n2_; (try clear hb); (try clear hb2); (try clear hk); (try clear hi); (try clear ho0); obtain ⟨Ao22, co22, eo22⟩ := Kd.R_slice HO106.out; subst eo22; have p107 : 0 ≤ (0 : Int) := (by omega); have q107 : 0 < (t102.length : Int) := of_decide_eq_true F2_; obtain ⟨ad107, e107, hx107_0⟩ := Kd.at_int (Kd.R_reads' HO106.out).2.2 0 p107 q107; cases e107; have qi107 : (0 < t102.length) = True := eq_true (by omega); (try rw [show ((0 : Int)).toNat = 0 from rfl] at hx107_0); (try rw [Addr.add_zero'] at hx107_0); replace p107 := eq_true p107; replace q107 := eq_true q107; have p108 : 0 ≤ (0 : Int) := (by omega); have q108 : 0 < (t102.length : Int) := of_decide_eq_true F2_; obtain ⟨ad108, e108, hx108_0⟩ := Kd.at_int (Kd.R_reads' HO106.out).2.2 0 p108 q108; obtain rfl : ad107 = ad108 := (by injection e108); have qi108 : (0 < t102.length) = True := eq_true (by omega); (try rw [show ((0 : Int)).toNat = 0 from rfl] at hx108_0); (try rw [Addr.add_zero'] at hx108_0); replace p108 := eq_true p108; replace q108 := eq_true q108; obtain ⟨i023, hi023, _, hsz23, _⟩ := info_parts info5; obtain ⟨A23, hcut23, hA23, hC23⟩ := print_mid_of (P := Try.prog) (Value.int .u8) 0 46 5 .i64 .i64 Try.underlying46 hi023 hsz23 A0 c0 l0 (ji13) (wrap64 ((ji13) + (wrap64 (rd t102 0)))) (of_decide_eq_true F2_) (by first | omega | exact of_decide_eq_true F2_) (of_decide_eq_true F2_) HC0.out; have HR109 := Aside0.mk (Kd.C_of_reads (h1 := fun _ => rfl) (hA23 _ (Kd.reads_of_C HR0.out))); have HC109 := Aside0.mk hC23; clear hA23 hC23 hi023 hsz23) | ((with_reducible refine gate_callee (f := 128) rfl ?_); refine goesL_ (some 52) rfl rfl Try.func128 (by kernel_rfl) rfl #[.slice A23 ((l0.take ((wrap64 ((ji13) + (wrap64 (rd t102 0)))) : Int).toNat).drop ((ji13) : Int).toNat).length (c0 - (ji13).toNat)] rfl F6_ ?_; (with_reducible refine (dunnageref22_read.calls k1 _ _ ((l0.take ((wrap64 ((ji13) + (wrap64 (rd t102 0)))) : Int).toNat).drop ((ji13) : Int).toNat) t110 t111 t112 true _ ?side1 ?side2 A17.out).mono ?_); (case side1 => repeat (first | exact (Kd.C_below HR109.out HB.out) | (with_reducible refine Kd.C_alloc ?_ _) | (with_reducible refine Kd.C_drewN ?_ _) | (with_reducible refine Kd.C_drew ?_))); (case side2 => exact HC109.out); rintro e w24 ⟨v113, rfl, ho0, hb⟩; refine ⟨_, rfl, ?_⟩; have n0_ := Aside0.mk (Kd.S_elder' F3_ (Kd.R_base ho0) hb); have n1_ := Aside0.mk (Kd.R_below F7_ hb); have n2_ := Aside0.mk (Kd.R_lower ho0 (below_size F1_)); have n3_ := Aside0.mk (below_step F1_ hb); clear HO_4; clear HO106; clear HB; have HO_4 := n0_; have HO106 := n1_; have HO114 := n2_; have HB := n3_; clear n0_ n1_ n2_ n3_; (try clear hb); (try clear hb2); (try clear hk); (try clear hi); (try clear ho0)) | ((with_reducible refine gate_dst (N := 10) rfl ?_); refine box_event ?hg (N := 10) ?hd (cs := #[.int .i64 0, .int .i64 0, .slice none 0 0]) (t := 60) ?hr ?_; (case hd => rfl); (case hg => rfl); (case hr => first | (go_simp; done) | (go_simp; rfl)); intro gb116 hg w25 hbox hb; have n0_ := Aside0.mk (Kd.S_below (Kd.S_elderB F3_ gb116 (Nat.le_of_eq hg.symm)) hb); have n1_ := Aside0.mk (Kd.R_below F7_ hb); have n2_ := Aside0.mk (Kd.R_below (by (with_reducible repeat (first | apply Kd.R_alloc | apply Kd.R_drewN | apply Kd.R_drew)); exact HO114.out) hb); have n3_ := Aside0.mk (below_step F1_ hb); have n4_ := Aside0.mk (hbox); have n5_ := Aside0.mk ((by rw [hg]; exact (below_size F1_) : w.heap.size ≤ gb116)); have n6_ := Aside0.mk ((by rw [hg]; exact (below_size F1_) : w.heap.size ≤ gb116)); clear HO_4; clear HO106; clear HO114; clear HB; have HO_4 := n0_; have HO106 := n1_; have HO114 := n2_; have HB := n3_; have BK116 := n4_; have GW116 := n5_; have GE116 := n6_; clear n0_ n1_ n2_ n3_ n4_ n5_ n6_; clear hb hbox hg; have hcz26_0 : w25.cell? ⟨gb116, 0, none⟩ = some (.int .i64 0) := (blk_cell BK116.out 0).trans rfl; have hcz26_1 : w25.cell? ⟨gb116, 1, none⟩ = some (.int .i64 0) := (blk_cell BK116.out 1).trans rfl; have hcz26_2 : w25.cell? ⟨gb116, 2, none⟩ = some (.slice none 0 0) := (blk_cell BK116.out 2).trans rfl; have hfz26_0 := blk_frozen BK116.out 0; have hfz26_1 := blk_frozen BK116.out 1; have hfz26_2 := blk_frozen BK116.out 2; obtain ⟨Ao27, co27, eo27⟩ := Kd.R_slice HO114.out; subst eo27) | ((with_reducible refine gate_store (t := 60) (p := 10) rfl ?_); refine store_event (t := 60) (p := 10) (v := ?vo_w28) (w1 := (((w25.setCell ⟨gb116, 0, none⟩ (.int .i64 t110)).setCell ⟨gb116, 1, none⟩ (.int .i64 t111)).setCell ⟨gb116, 2, none⟩ (.slice Ao27 t112.length co27))) ?hg ?ho ?hn ?hr ?_; (case ho => rfl); (case hg => rfl); (case hn => rfl); (case hr => first | (go_simp; done) | (go_simp; rfl)); intro w28 hw; have n0_ : Aside0 (Kd.S k60 60 w28 w.heap.size (fun k_ => some k_ ≠ (.slice Ao27 t112.length co27 : Value).ownBlock ∧ k_ ≠ gb116) u4 x4_1) := ⟨(by rw [hw]; exact (by (with_reducible repeat (first | apply Kd.S_alloc | apply Kd.S_drewN | apply Kd.S_drew)); exact Kd.S_mono (Kd.S_far (p := ⟨gb116, 2, none⟩) (Kd.S_far (p := ⟨gb116, 1, none⟩) (Kd.S_far (p := ⟨gb116, 0, none⟩) (Kd.S_mono HO_4.out (fun k_ hk => (⟨hk, hk.2⟩ : _ ∧ k_ ≠ gb116))) (fun _ hk => hk.2) (.int .i64 t110)) (fun _ hk => hk.2) (.int .i64 t111)) (fun _ hk => hk.2) (.slice Ao27 t112.length co27)) (fun _ hk => ⟨hk.1.1.2, hk.1.2⟩)))⟩; have n1_ : Aside0 (Kd.R (Kd.int .u64) 31 w28 w.heap.size (fun _ => True) (.slice (some ad107) t102.length co22) t102) := ⟨(by rw [hw]; exact (by (with_reducible repeat (first | apply Kd.R_alloc | apply Kd.R_drewN | apply Kd.R_drew)); exact Kd.R_mono (Kd.R_far (p := ⟨gb116, 2, none⟩) (Kd.R_far (p := ⟨gb116, 1, none⟩) (Kd.R_far (p := ⟨gb116, 0, none⟩) (Kd.R_types HO106.out BK116.out (by decide)) (fun _ hk => hk.2) (.int .i64 t110)) (fun _ hk => hk.2) (.int .i64 t111)) (fun _ hk => hk.2) (.slice Ao27 t112.length co27)) (fun _ hk => trivial)))⟩; have n2_ : Aside0 (Kd.R k130 130 w28 w.heap.size (fun _ => True) (.slice Ao27 t112.length co27) t112) := ⟨(by rw [hw]; exact (by (with_reducible repeat (first | apply Kd.R_alloc | apply Kd.R_drewN | apply Kd.R_drew)); exact Kd.R_mono (Kd.R_far (p := ⟨gb116, 2, none⟩) (Kd.R_far (p := ⟨gb116, 1, none⟩) (Kd.R_far (p := ⟨gb116, 0, none⟩) (Kd.R_types HO114.out BK116.out (by decide)) (fun _ hk => hk.2) (.int .i64 t110)) (fun _ hk => hk.2) (.int .i64 t111)) (fun _ hk => hk.2) (.slice Ao27 t112.length co27)) (fun _ hk => trivial)))⟩; have n3_ : Aside0 (w28.heap[gb116]? = some (.cells #[.int .i64 t110, .int .i64 t111, .slice Ao27 t112.length co27] 60 (0, 0))) := ⟨(by rw [hw]; exact (by (with_reducible repeat (first | refine blk_drewN ?_ _ | refine blk_drew ?_ | refine blk_alloc ?_ _)); refine blk_put (cs := #[.int .i64 t110, .int .i64 t111, .slice none 0 0]) ?_ 2 _ rfl; (with_reducible repeat (first | refine blk_drewN ?_ _ | refine blk_drew ?_ | refine blk_alloc ?_ _)); refine blk_put (cs := #[.int .i64 t110, .int .i64 0, .slice none 0 0]) ?_ 1 _ rfl; (with_reducible repeat (first | refine blk_drewN ?_ _ | refine blk_drew ?_ | refine blk_alloc ?_ _)); refine blk_put (cs := #[.int .i64 0, .int .i64 0, .slice none 0 0]) ?_ 0 _ rfl; (with_reducible repeat (first | refine blk_drewN ?_ _ | refine blk_drew ?_ | refine blk_alloc ?_ _)); exact BK116.out))⟩; have n4_ : Aside0 (Below w.heap.size w w28) := ⟨(by rw [hw]; exact F8_)⟩; clear hw; clear HO_4; clear HO106; clear HO114; clear BK116; clear HB; have HO_4 := n0_; have HO106 := n1_; have HO114 := n2_; have BK116 := n3_; have HB := n4_; clear n0_ n1_ n2_ n3_ n4_; have hcz29_0 : w28.cell? ⟨gb116, 0, none⟩ = some (.int .i64 t110) := (blk_cell BK116.out 0).trans rfl; have hcz29_1 : w28.cell? ⟨gb116, 1, none⟩ = some (.int .i64 t111) := (blk_cell BK116.out 1).trans rfl; have hcz29_2 : w28.cell? ⟨gb116, 2, none⟩ = some (.slice Ao27 t112.length co27) := (blk_cell BK116.out 2).trans rfl; have hfz29_0 := blk_frozen BK116.out 0; have hfz29_1 := blk_frozen BK116.out 1; have hfz29_2 := blk_frozen BK116.out 2) | ((with_reducible refine gate_builtin (b := .append) (xs := #[.tmp 59, .tmp 61]) rfl ?_); at_builtin; refine Kd.S_append k60 (w0 := w) w.heap.size rfl (.tmp 59) (.tmp 61) 79 60 (.agg #[(.int .i64 0), (.int .i64 0), (.slice none 0 0)]) 40 rfl Try.underlying79 info60 rfl (by decide) (by omega) u4 x4_1 (⟨t110, t111, t112⟩ : S60) [.int .i64 t110, .int .i64 t111, .slice Ao27 t112.length co27] (fun k_ => k_ ≠ gb116) (fun k_ => some k_ = (.slice Ao27 t112.length co27 : Value).ownBlock) rfl rfl ?aP (fun k_ hk_ => ((Kd.R_mono (ok' := fun k_ => ((fun k_ => k_ ≠ gb116)) k_ ∧ some k_ ≠ (u4 : Value).ownBlock) (Kd.R_types (Kd.R_apart' (HO114.out) (Kd.S_typed HO_4.out) (by decide)) BK116.out (by decide)) (fun k_ hk => ⟨hk.2, hk.1.2⟩))).1 k_ hk_.symm) ?aF ?aO ?aB ?aS ?aL ?_; (case aP => exact k60_mkM _ _ _ (⟨t110, t111, t112⟩ : S60) (Kd.R_mono (Kd.R_tight rfl (Kd.R_mono (ok' := fun k_ => ((fun k_ => k_ ≠ gb116)) k_ ∧ some k_ ≠ (u4 : Value).ownBlock) (Kd.R_types (Kd.R_apart' (HO114.out) (Kd.S_typed HO_4.out) (by decide)) BK116.out (by decide)) (fun k_ hk => ⟨hk.2, hk.1.2⟩))) (fun _ h_ => h_))); (case aB => exact F8_); (case aF => exact (fun k_ hk => Kd.freshB (g := gb116) (o := .cells #[.int .i64 t110, .int .i64 t111, .slice Ao27 t112.length co27] 60 (0, 0)) (by (with_reducible repeat (first | refine blk_drewN ?_ _ | refine blk_drew ?_ | refine blk_alloc ?_ _)); exact BK116.out) k_ hk)); (case aO => exact (by (with_reducible repeat (first | apply Kd.S_alloc | apply Kd.S_drewN | apply Kd.S_drew)); exact Kd.S_mono HO_4.out (fun k_ hk => ⟨hk.2, fun e_ => hk.1 e_⟩))); (case aS => exact (below_size F8_)); (case aL => have := LMc19.out; omega); intro v118 w30 ho hb hg hat; rw [← Ny117.out] at ho; have n0_ := Aside0.mk (Kd.R_over' F7_ (Kd.S_typed F3_) (by decide) hg); have n1_ := Aside0.mk (blk_grown (g := gb116) (o := .cells #[.int .i64 t110, .int .i64 t111, .slice Ao27 t112.length co27] 60 (0, 0)) (by (with_reducible repeat (first | refine blk_drewN ?_ _ | refine blk_drew ?_ | refine blk_alloc ?_ _)); exact BK116.out) hg (Kd.S_away HO_4.out (fun _ hk => hk.2))); have n2_ := Aside0.mk (hb); have n3_ := Aside0.mk (ho); clear HO106; clear BK116; clear HB; clear HO_4; clear HO114; have HO106 := n0_; have BK116 := n1_; have HB := n2_; have HO119 := n3_; clear n0_ n1_ n2_ n3_; clear ho hb hg hat))
                          go_roundg k1
                          case measure => have := HK1.out; omega
                          case rel => exact ⟨(y117), (wrap64 ((ji13) + (wrap64 (rd t102 0)))), (by first | rfl | (simp; done) | (simp only [← hji13] <;> (first | rfl | simp)) | (simp [*]; done)), H', ⟨by have := HK1.out; omega⟩, ⟨by (with_reducible repeat (first | apply Kd.S_alloc | apply Kd.S_drewN | apply Kd.S_drew)); exact Kd.S_mono HO119.out (fun _ hk => trivial)⟩, ⟨by repeat (first | (with_reducible first | exact HB.out | apply below_alloc | apply pw_below_drewN | apply below_drew1 | refine below_set ?_ GE116.out) | exact HB.out)⟩⟩
                        · rw [if_neg c19] at H
                          exact absurd H (by simp)
                      · replace c18 := Bool.eq_false_iff.mpr c18
                        subst c18
                        have H1 : (some (x4_1, x5_1)) = some (r1, r2) := by rw [if_neg (show ¬ (false = true) by decide)] at H; exact H
                        clear H
                        have H := H1
                        clear H1
                        simp only [Option.some.injEq, Prod.mk.injEq] at H
                        obtain ⟨rfl, rfl⟩ := H
                        obtain ⟨i031, hi031, _, hsz31, _⟩ := info_parts info5
                        obtain ⟨A31, hcut31, hA31, hC31⟩ := print_drop_of (P := Try.prog) (Value.int .u8) 0 46 5 .i64 Try.underlying46 hi031 hsz31 A0 c0 l0 x5_1 (of_decide_eq_true F2_) (of_decide_eq_true F2_) HC0.out
                        have HR101 := Aside0.mk (Kd.C_of_reads (h1 := fun _ => rfl) (hA31 _ (Kd.reads_of_C HR0.out)))
                        have HC101 := Aside0.mk hC31
                        clear hA31 hC31 hi031 hsz31
                        go_wp2_with (first | ((with_reducible refine gate_callee (f := 127) rfl ?_); refine goesL_ (some 16) rfl rfl Try.func127 (by kernel_rfl) rfl #[.slice A31 (l0.drop (x5_1 : Int).toNat).length (c0 - x5_1.toNat), .int .i64 1] rfl F4_ ?_; (with_reducible refine (dunnageref02_Get.calls k1 _ _ (l0.drop (x5_1 : Int).toNat) 1 t102 t103 t104 _ ?side1 ?side2 A4.out).mono ?_); (case side1 => exact F5_); (case side2 => exact HC101.out); rintro e w32 ⟨v105, rfl, ho0, hb⟩; refine ⟨_, rfl, ?_⟩; have n0_ := Aside0.mk (Kd.S_below F3_ hb); have n1_ := Aside0.mk (Kd.R_lower ho0 (below_size F1_)); have n2_ := Aside0.mk (below_step F1_ hb); clear HO_4; clear HB; have HO_4 := n0_; have HO106 := n1_; have HB := n2_; clear n0_ n1_ n2_; (try clear hb); (try clear hb2); (try clear hk); (try clear hi); (try clear ho0); obtain ⟨Ao33, co33, eo33⟩ := Kd.R_slice HO106.out; subst eo33; have p107 : 0 ≤ (0 : Int) := (by omega); have q107 : 0 < (t102.length : Int) := of_decide_eq_true F2_; obtain ⟨ad107, e107, hx107_0⟩ := Kd.at_int (Kd.R_reads' HO106.out).2.2 0 p107 q107; cases e107; have qi107 : (0 < t102.length) = True := eq_true (by omega); (try rw [show ((0 : Int)).toNat = 0 from rfl] at hx107_0); (try rw [Addr.add_zero'] at hx107_0); replace p107 := eq_true p107; replace q107 := eq_true q107; have p108 : 0 ≤ (0 : Int) := (by omega); have q108 : 0 < (t102.length : Int) := of_decide_eq_true F2_; obtain ⟨ad108, e108, hx108_0⟩ := Kd.at_int (Kd.R_reads' HO106.out).2.2 0 p108 q108; obtain rfl : ad107 = ad108 := (by injection e108); have qi108 : (0 < t102.length) = True := eq_true (by omega); (try rw [show ((0 : Int)).toNat = 0 from rfl] at hx108_0); (try rw [Addr.add_zero'] at hx108_0); replace p108 := eq_true p108; replace q108 := eq_true q108; obtain ⟨i034, hi034, _, hsz34, _⟩ := info_parts info5; obtain ⟨A34, hcut34, hA34, hC34⟩ := print_mid_of (P := Try.prog) (Value.int .u8) 0 46 5 .i64 .i64 Try.underlying46 hi034 hsz34 A0 c0 l0 (ji13) (wrap64 ((ji13) + (wrap64 (rd t102 0)))) (of_decide_eq_true F2_) (by first | omega | exact of_decide_eq_true F2_) (of_decide_eq_true F2_) HC0.out; have HR109 := Aside0.mk (Kd.C_of_reads (h1 := fun _ => rfl) (hA34 _ (Kd.reads_of_C HR0.out))); have HC109 := Aside0.mk hC34; clear hA34 hC34 hi034 hsz34) | ((with_reducible refine gate_callee (f := 128) rfl ?_); refine goesL_ (some 52) rfl rfl Try.func128 (by kernel_rfl) rfl #[.slice A34 ((l0.take ((wrap64 ((ji13) + (wrap64 (rd t102 0)))) : Int).toNat).drop ((ji13) : Int).toNat).length (c0 - (ji13).toNat)] rfl F6_ ?_; (with_reducible refine (dunnageref22_read.calls k1 _ _ ((l0.take ((wrap64 ((ji13) + (wrap64 (rd t102 0)))) : Int).toNat).drop ((ji13) : Int).toNat) t110 t111 t112 false _ ?side1 ?side2 A17.out).mono ?_); (case side1 => repeat (first | exact (Kd.C_below HR109.out HB.out) | (with_reducible refine Kd.C_alloc ?_ _) | (with_reducible refine Kd.C_drewN ?_ _) | (with_reducible refine Kd.C_drew ?_))); (case side2 => exact HC109.out); rintro e w35 ⟨v113, rfl, ho0, hb⟩; refine ⟨_, rfl, ?_⟩; have n0_ := Aside0.mk (Kd.S_elder' F3_ (Kd.R_base ho0) hb); have n1_ := Aside0.mk (Kd.R_below F7_ hb); have n2_ := Aside0.mk (Kd.R_lower ho0 (below_size F1_)); have n3_ := Aside0.mk (below_step F1_ hb); clear HO_4; clear HO106; clear HB; have HO_4 := n0_; have HO106 := n1_; have HO114 := n2_; have HB := n3_; clear n0_ n1_ n2_ n3_; (try clear hb); (try clear hb2); (try clear hk); (try clear hi); (try clear ho0)) | ((with_reducible refine gate_dst (N := 10) rfl ?_); refine box_event ?hg (N := 10) ?hd (cs := #[.int .i64 0, .int .i64 0, .slice none 0 0]) (t := 60) ?hr ?_; (case hd => rfl); (case hg => rfl); (case hr => first | (go_simp; done) | (go_simp; rfl)); intro gb116 hg w36 hbox hb; have n0_ := Aside0.mk (Kd.S_below (Kd.S_elderB F3_ gb116 (Nat.le_of_eq hg.symm)) hb); have n1_ := Aside0.mk (Kd.R_below F7_ hb); have n2_ := Aside0.mk (Kd.R_below (by (with_reducible repeat (first | apply Kd.R_alloc | apply Kd.R_drewN | apply Kd.R_drew)); exact HO114.out) hb); have n3_ := Aside0.mk (below_step F1_ hb); have n4_ := Aside0.mk (hbox); have n5_ := Aside0.mk ((by rw [hg]; exact (below_size F1_) : w.heap.size ≤ gb116)); have n6_ := Aside0.mk ((by rw [hg]; exact (below_size F1_) : w.heap.size ≤ gb116)); clear HO_4; clear HO106; clear HO114; clear HB; have HO_4 := n0_; have HO106 := n1_; have HO114 := n2_; have HB := n3_; have BK116 := n4_; have GW116 := n5_; have GE116 := n6_; clear n0_ n1_ n2_ n3_ n4_ n5_ n6_; clear hb hbox hg; have hcz37_0 : w36.cell? ⟨gb116, 0, none⟩ = some (.int .i64 0) := (blk_cell BK116.out 0).trans rfl; have hcz37_1 : w36.cell? ⟨gb116, 1, none⟩ = some (.int .i64 0) := (blk_cell BK116.out 1).trans rfl; have hcz37_2 : w36.cell? ⟨gb116, 2, none⟩ = some (.slice none 0 0) := (blk_cell BK116.out 2).trans rfl; have hfz37_0 := blk_frozen BK116.out 0; have hfz37_1 := blk_frozen BK116.out 1; have hfz37_2 := blk_frozen BK116.out 2; obtain ⟨Ao38, co38, eo38⟩ := Kd.R_slice HO114.out; subst eo38))
                        go_ret2
                        exact ⟨_, by first | rfl | (simp [errW_none, errW_some] <;> rfl) | (simp only [← hji13]; first | rfl | (simp [errW_none, errW_some] <;> rfl)) | (simp [*, errW_none, errW_some] <;> rfl), by (with_reducible repeat (first | apply Kd.S_alloc | apply Kd.S_drewN | apply Kd.S_drew)); exact Kd.S_mono (Kd.S_far (p := ⟨gb116, 2, none⟩) (Kd.S_far (p := ⟨gb116, 1, none⟩) (Kd.S_far (p := ⟨gb116, 0, none⟩) (Kd.S_mono HO_4.out (fun k_ hk => (⟨hk, hk.2⟩ : _ ∧ k_ ≠ gb116))) (fun _ hk => hk.2) (.int .i64 t110)) (fun _ hk => hk.2) (.int .i64 t111)) (fun _ hk => hk.2) (.slice Ao38 t112.length co38)) (fun _ hk => trivial), by repeat (first | (with_reducible first | exact HB.out | apply below_alloc | apply pw_below_drewN | apply below_drew1 | refine below_set ?_ GE116.out) | exact HB.out)⟩
                    · rw [if_neg c16] at H
                      exact absurd H (by simp)
                  · rw [if_neg c15] at H
                    exact absurd H (by simp)
                · rw [if_neg c14] at H
                  exact absurd H (by simp)
            · rw [if_neg c8] at H
              exact absurd H (by simp)
        · rw [if_neg c3] at H
          exact absurd H (by simp)
      · rw [if_neg c2] at H
        exact absurd H (by simp)

end Go.Proofs.Ytppfkbigeknedaa.Q
