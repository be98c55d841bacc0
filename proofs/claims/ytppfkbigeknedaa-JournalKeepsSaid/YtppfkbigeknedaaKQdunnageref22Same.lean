import Derived.Test.YtppfkbigeknedaaKQ0
import Derived.Test.YtppfkbigeknedaaKQdunnageref04SameMoves
namespace Go.Proofs.Ytppfkbigeknedaa.Q
open Go.RowKit Go.Proofs.YtppfkbigeknedaaW.PrintWords Go.Proofs.YtppfkbigeknedaaW.PrintLast Go.Proofs.YtppfkbigeknedaaW.PrintMore
attribute [local go_sem] max2_int min2_int max_two min_two max_three min_three max_four min_four   -- for this text's walks alone
set_option linter.unusedVariables false
set_option linter.unusedSimpArgs false

attribute [local go_sem] eqe_ii eqe_nn eqe_ni eqe_nni
namespace FoldQdunnageref22Same
theorem F1_ {p : Prop} (h : p := by first | (with_reducible assumption) | assumption) : p := h
theorem F2_ {p : Prop} (h : p := by repeat (first | exact HR101_2.out | (with_reducible refine Kd.C_alloc ?_ _) | (with_reducible refine Kd.C_drewN ?_ _) | (with_reducible refine Kd.C_drew ?_))) : p := h
theorem F3_ {p : Prop} (h : p := by repeat (first | exact HR102_2.out | (with_reducible refine Kd.C_alloc ?_ _) | (with_reducible refine Kd.C_drewN ?_ _) | (with_reducible refine Kd.C_drew ?_))) : p := h
end FoldQdunnageref22Same
open FoldQdunnageref22Same
def dunnageref22_Same.l0 : Nat → List (S60) → List (S60) → Int → Option (Bool)
  | 0, _, _, _ => none
  | k + 1, x0, x1, x5 => if x5 < (x0.length : Int) then (if 0 ≤ x5 then (if x5 < (x1.length : Int) then ((dunnageref04_SameMoves.f k ((rd_T60 x0 x5).f2) ((rd_T60 x1 x5).f2)).bind fun t103 => (if ((rd_T60 x0 x5).f0) = ((rd_T60 x1 x5).f0) then (if ((rd_T60 x0 x5).f1) = ((rd_T60 x1 x5).f1) then (if t103 = true then (dunnageref22_Same.l0 k x0 x1 (wrap64 (x5 + 1))) else (some false)) else (some false)) else (some false))) else (none)) else (none)) else (some true)
def dunnageref22_Same.f (k : Nat) (l0 : List (S60)) (l1 : List (S60)) : Option (Bool) := if (l0.length : Int) = (l1.length : Int) then (dunnageref22_Same.l0 k l0 l1 0) else (some false)
theorem dunnageref22_Same.mono_l : ∀ k, (∀ y0 y1 y2, LeO (dunnageref22_Same.l0 k y0 y1 y2) (dunnageref22_Same.l0 (k + 1) y0 y1 y2))
  | 0 => fun _ _ _ r h => by simp [dunnageref22_Same.l0] at h
  | k + 1 => by
    have ih0 := dunnageref22_Same.mono_l k
    · intro y0 y1 y2
      unfold dunnageref22_Same.l0
      repeat' first
      | (with_reducible exact ih0 _ _ _)
      | (with_reducible exact dunnageref04_SameMoves.mono _ _ _)
      | (with_reducible exact LeO.refl _)
      | (with_reducible exact LeO.none _)
      | (with_reducible refine LeO.ite ?_ ?_)
      | (with_reducible refine LeO.bind ?_ (fun _ => ?_))
      | exact ih0 _ _ _
      | exact dunnageref04_SameMoves.mono _ _ _
      | exact LeO.none _
      | refine LeO.ite ?_ ?_
      | refine LeO.bind ?_ (fun _ => ?_)
theorem dunnageref22_Same.mono : ∀ a0 a1 k, LeO (dunnageref22_Same.f k a0 a1) (dunnageref22_Same.f (k + 1) a0 a1) := by
  intro a0 a1 k
  have ih0 := dunnageref22_Same.mono_l k
  unfold dunnageref22_Same.f
  repeat' first
      | (with_reducible exact ih0 _ _ _)
      | (with_reducible exact dunnageref04_SameMoves.mono _ _ _)
      | (with_reducible exact LeO.refl _)
      | (with_reducible exact LeO.none _)
      | (with_reducible refine LeO.ite ?_ ?_)
      | (with_reducible refine LeO.bind ?_ (fun _ => ?_))
      | exact ih0 _ _ _
      | exact dunnageref04_SameMoves.mono _ _ _
      | exact LeO.none _
      | refine LeO.ite ?_ ?_
      | refine LeO.bind ?_ (fun _ => ?_)
set_option maxHeartbeats 8000000 in
set_option maxRecDepth 100000 in
theorem dunnageref22_Same.calls (k : Nat) (A0 : Option Addr) (c0 : Nat) (l0 : List (S60)) (A1 : Option Addr) (c1 : Nat) (l1 : List (S60)) (r : Bool) (w : World) (hr0 : Kd.C k60 w A0 l0.length l0) (hc0 : l0.length ≤ c0) (hr1 : Kd.C k60 w A1 l1.length l1) (hc1 : l1.length ≤ c1) (h : dunnageref22_Same.f k l0 l1 = some r) :
    Calls Try.prog 57 #[.slice A0 l0.length c0, .slice A1 l1.length c1] w fun e w' => e = .returned (.bool r) ∧ Drawn0 w w' := by
  have HR0 := Aside0.mk hr0
  have HC0 := Aside0.mk hc0
  clear hr0 hc0
  have HR1 := Aside0.mk hr1
  have HC1 := Aside0.mk hc1
  clear hr1 hc1
  have H : (if (l0.length : Int) = (l1.length : Int) then (dunnageref22_Same.l0 k l0 l1 0) else (some false)) = some r := h
  clear h
  by_cases c3 : (l0.length : Int) = (l1.length : Int)
  · rw [if_pos c3] at H
    have c3b0 : ((l0.length : Int) == (l1.length : Int)) = true := beq_iff_eq.mpr c3
    have c3b1 : ((l0.length : Int) != (l1.length : Int)) = false := bne_eq_false_iff_eq.mpr c3
    have c3b2 : (l0.length == l1.length) = true := by first | simpa using c3 | (simp at c3 ⊢; omega)
    clear c3
    have H' := Aside0.mk H
    clear H
    go_enter Try.func57, Try.ntmps57
    go_wp2
    repeat (go_quiet (fail); try go_wp2)
    go_loopg [5] k (fun kq v5 w' => ∃ (x5_1 : Int), v5 = .int .i64 x5_1 ∧ Aside0 (dunnageref22_Same.l0 kq l0 l1 x5_1 = some r) ∧ Aside0 (kq ≤ k) ∧ Drawn0 w w')
    case atStart => exact ⟨(0), (by first | rfl | (simp; done) | (simp [*]; done)), H', ⟨Nat.le_refl _⟩, by repeat (first | exact Drawn0.refl _ | apply Drawn0.step)⟩
    case round =>
      clear H'
      try clear c1
      try clear p2
      try clear c3
      try clear c3b0
      try clear c3b1
      try clear c3b2
      obtain ⟨x5_1, rfl, HA, HK1, ⟨m1, rfl⟩⟩ := hrel
      cases gk with
      | zero => exact absurd HA.out (by simp [dunnageref22_Same.l0])
      | succ k1 =>
        have H := HA.out
        clear HA
        simp only [dunnageref22_Same.l0] at H
        by_cases c4 : x5_1 < (l0.length : Int)
        · rw [if_pos c4] at H
          have c4b0 : decide (x5_1 < (l0.length : Int)) = true := decide_eq_true c4
          clear c4
          by_cases c5 : 0 ≤ x5_1
          · rw [if_pos c5] at H
            have c5b0 : decide (0 ≤ x5_1) = true := decide_eq_true c5
            clear c5
            by_cases c6 : x5_1 < (l1.length : Int)
            · rw [if_pos c6] at H
              have c6b0 : decide (x5_1 < (l1.length : Int)) = true := decide_eq_true c6
              clear c6
              replace H := Option.bind_eq_some_iff.mp H
              obtain ⟨t103, A70, H⟩ := H
              replace H : (if ((rd_T60 l0 x5_1).f0) = ((rd_T60 l1 x5_1).f0) then (if ((rd_T60 l0 x5_1).f1) = ((rd_T60 l1 x5_1).f1) then (if t103 = true then (dunnageref22_Same.l0 k1 l0 l1 (wrap64 (x5_1 + 1))) else (some false)) else (some false)) else (some false)) = some r := H
              have A7 := Aside0.mk A70
              clear A70
              by_cases c8 : ((rd_T60 l0 x5_1).f0) = ((rd_T60 l1 x5_1).f0)
              · rw [if_pos c8] at H
                have c8b0 : (((rd_T60 l0 x5_1).f0) == ((rd_T60 l1 x5_1).f0)) = true := beq_iff_eq.mpr c8
                have c8b1 : (((rd_T60 l0 x5_1).f0) != ((rd_T60 l1 x5_1).f0)) = false := bne_eq_false_iff_eq.mpr c8
                clear c8
                by_cases c9 : ((rd_T60 l0 x5_1).f1) = ((rd_T60 l1 x5_1).f1)
                · rw [if_pos c9] at H
                  have c9b0 : (((rd_T60 l0 x5_1).f1) == ((rd_T60 l1 x5_1).f1)) = true := beq_iff_eq.mpr c9
                  have c9b1 : (((rd_T60 l0 x5_1).f1) != ((rd_T60 l1 x5_1).f1)) = false := bne_eq_false_iff_eq.mpr c9
                  clear c9
                  by_cases c10 : t103 = true
                  · subst c10
                    have H1 : (dunnageref22_Same.l0 k1 l0 l1 (wrap64 (x5_1 + 1))) = some r := by rw [if_pos rfl] at H; exact H
                    clear H
                    have H := H1
                    clear H1
                    have H' := Aside0.mk H
                    clear H
                    have p101 : 0 ≤ (x5_1 : Int) := of_decide_eq_true F1_
                    have q101 : x5_1 < (l0.length : Int) := of_decide_eq_true F1_
                    obtain ⟨ad101, A101_2, c101_2, e101, hx101_0, hx101_1, hx101_2, hl101_2, hi101_2⟩ := at_T60 HR0.out x5_1 p101 q101
                    cases e101
                    have HR101_2 := Aside0.mk hi101_2
                    have HC101_2 := Aside0.mk hl101_2
                    clear hi101_2 hl101_2
                    replace p101 := eq_true p101
                    replace q101 := eq_true q101
                    have p102 : 0 ≤ (x5_1 : Int) := of_decide_eq_true F1_
                    have q102 : x5_1 < (l1.length : Int) := of_decide_eq_true F1_
                    obtain ⟨ad102, A102_2, c102_2, e102, hx102_0, hx102_1, hx102_2, hl102_2, hi102_2⟩ := at_T60 HR1.out x5_1 p102 q102
                    cases e102
                    have HR102_2 := Aside0.mk hi102_2
                    have HC102_2 := Aside0.mk hl102_2
                    clear hi102_2 hl102_2
                    replace p102 := eq_true p102
                    replace q102 := eq_true q102
                    go_wp2_with (first | (go_at_call 102; (with_reducible refine (dunnageref04_SameMoves.calls k1 _ _ ((rd_T60 l0 x5_1).f2) _ _ ((rd_T60 l1 x5_1).f2) true _ ?side1 ?side2 ?side3 ?side4 A7.out).mono ?_); (case side1 => exact F2_); (case side2 => exact HC101_2.out); (case side3 => exact F3_); (case side4 => exact HC102_2.out); rintro e w' ⟨rfl, ⟨nd, rfl⟩⟩; (try first | exact ⟨rfl, _, World.drewN_drewN _ _ _⟩ | exact ⟨rfl, _, Eq.trans (World.drewN_drewN _ _ _) (congrArg (World.drewN _) (Nat.add_assoc _ _ _))⟩); have p104 : 0 ≤ (x5_1 : Int) := of_decide_eq_true F1_; have q104 : x5_1 < (l0.length : Int) := of_decide_eq_true F1_; obtain ⟨ad104, A104_2, c104_2, e104, hx104_0, hx104_1, hx104_2, hl104_2, hi104_2⟩ := at_T60 HR0.out x5_1 p104 q104; obtain rfl : ad101 = ad104 := (by injection e104); have HR104_2 := Aside0.mk hi104_2; have HC104_2 := Aside0.mk hl104_2; clear hi104_2 hl104_2; replace p104 := eq_true p104; replace q104 := eq_true q104; have ea_ := Option.some.inj (hx101_2.symm.trans hx104_2); injection ea_ with ea_ en_ ec_; subst ea_; subst ec_; clear en_; have p105 : 0 ≤ (x5_1 : Int) := of_decide_eq_true F1_; have q105 : x5_1 < (l1.length : Int) := of_decide_eq_true F1_; obtain ⟨ad105, A105_2, c105_2, e105, hx105_0, hx105_1, hx105_2, hl105_2, hi105_2⟩ := at_T60 HR1.out x5_1 p105 q105; obtain rfl : ad102 = ad105 := (by injection e105); have HR105_2 := Aside0.mk hi105_2; have HC105_2 := Aside0.mk hl105_2; clear hi105_2 hl105_2; replace p105 := eq_true p105; replace q105 := eq_true q105; have ea_ := Option.some.inj (hx102_2.symm.trans hx105_2); injection ea_ with ea_ en_ ec_; subst ea_; subst ec_; clear en_; have p106 : 0 ≤ (x5_1 : Int) := of_decide_eq_true F1_; have q106 : x5_1 < (l0.length : Int) := of_decide_eq_true F1_; obtain ⟨ad106, A106_2, c106_2, e106, hx106_0, hx106_1, hx106_2, hl106_2, hi106_2⟩ := at_T60 HR0.out x5_1 p106 q106; obtain rfl : ad101 = ad106 := (by injection e106); have HR106_2 := Aside0.mk hi106_2; have HC106_2 := Aside0.mk hl106_2; clear hi106_2 hl106_2; replace p106 := eq_true p106; replace q106 := eq_true q106; have ea_ := Option.some.inj (hx101_2.symm.trans hx106_2); injection ea_ with ea_ en_ ec_; subst ea_; subst ec_; clear en_; have p107 : 0 ≤ (x5_1 : Int) := of_decide_eq_true F1_; have q107 : x5_1 < (l1.length : Int) := of_decide_eq_true F1_; obtain ⟨ad107, A107_2, c107_2, e107, hx107_0, hx107_1, hx107_2, hl107_2, hi107_2⟩ := at_T60 HR1.out x5_1 p107 q107; obtain rfl : ad102 = ad107 := (by injection e107); have HR107_2 := Aside0.mk hi107_2; have HC107_2 := Aside0.mk hl107_2; clear hi107_2 hl107_2; replace p107 := eq_true p107; replace q107 := eq_true q107; have ea_ := Option.some.inj (hx102_2.symm.trans hx107_2); injection ea_ with ea_ en_ ec_; subst ea_; subst ec_; clear en_))
                    repeat (go_quiet (first | (go_at_call 102; (with_reducible refine (dunnageref04_SameMoves.calls k1 _ _ ((rd_T60 l0 x5_1).f2) _ _ ((rd_T60 l1 x5_1).f2) true _ ?side1 ?side2 ?side3 ?side4 A7.out).mono ?_); (case side1 => exact F2_); (case side2 => exact HC101_2.out); (case side3 => exact F3_); (case side4 => exact HC102_2.out); rintro e w' ⟨rfl, ⟨nd, rfl⟩⟩; (try first | exact ⟨rfl, _, World.drewN_drewN _ _ _⟩ | exact ⟨rfl, _, Eq.trans (World.drewN_drewN _ _ _) (congrArg (World.drewN _) (Nat.add_assoc _ _ _))⟩); have p104 : 0 ≤ (x5_1 : Int) := of_decide_eq_true F1_; have q104 : x5_1 < (l0.length : Int) := of_decide_eq_true F1_; obtain ⟨ad104, A104_2, c104_2, e104, hx104_0, hx104_1, hx104_2, hl104_2, hi104_2⟩ := at_T60 HR0.out x5_1 p104 q104; obtain rfl : ad101 = ad104 := (by injection e104); have HR104_2 := Aside0.mk hi104_2; have HC104_2 := Aside0.mk hl104_2; clear hi104_2 hl104_2; replace p104 := eq_true p104; replace q104 := eq_true q104; have ea_ := Option.some.inj (hx101_2.symm.trans hx104_2); injection ea_ with ea_ en_ ec_; subst ea_; subst ec_; clear en_; have p105 : 0 ≤ (x5_1 : Int) := of_decide_eq_true F1_; have q105 : x5_1 < (l1.length : Int) := of_decide_eq_true F1_; obtain ⟨ad105, A105_2, c105_2, e105, hx105_0, hx105_1, hx105_2, hl105_2, hi105_2⟩ := at_T60 HR1.out x5_1 p105 q105; obtain rfl : ad102 = ad105 := (by injection e105); have HR105_2 := Aside0.mk hi105_2; have HC105_2 := Aside0.mk hl105_2; clear hi105_2 hl105_2; replace p105 := eq_true p105; replace q105 := eq_true q105; have ea_ := Option.some.inj (hx102_2.symm.trans hx105_2); injection ea_ with ea_ en_ ec_; subst ea_; subst ec_; clear en_; have p106 : 0 ≤ (x5_1 : Int) := of_decide_eq_true F1_; have q106 : x5_1 < (l0.length : Int) := of_decide_eq_true F1_; obtain ⟨ad106, A106_2, c106_2, e106, hx106_0, hx106_1, hx106_2, hl106_2, hi106_2⟩ := at_T60 HR0.out x5_1 p106 q106; obtain rfl : ad101 = ad106 := (by injection e106); have HR106_2 := Aside0.mk hi106_2; have HC106_2 := Aside0.mk hl106_2; clear hi106_2 hl106_2; replace p106 := eq_true p106; replace q106 := eq_true q106; have ea_ := Option.some.inj (hx101_2.symm.trans hx106_2); injection ea_ with ea_ en_ ec_; subst ea_; subst ec_; clear en_; have p107 : 0 ≤ (x5_1 : Int) := of_decide_eq_true F1_; have q107 : x5_1 < (l1.length : Int) := of_decide_eq_true F1_; obtain ⟨ad107, A107_2, c107_2, e107, hx107_0, hx107_1, hx107_2, hl107_2, hi107_2⟩ := at_T60 HR1.out x5_1 p107 q107; obtain rfl : ad102 = ad107 := (by injection e107); have HR107_2 := Aside0.mk hi107_2; have HC107_2 := Aside0.mk hl107_2; clear hi107_2 hl107_2; replace p107 := eq_true p107; replace q107 := eq_true q107; have ea_ := Option.some.inj (hx102_2.symm.trans hx107_2); injection ea_ with ea_ en_ ec_; subst ea_; subst ec_; clear en_)); try go_wp2_with (first | (go_at_call 102; (with_reducible refine (dunnageref04_SameMoves.calls k1 _ _ ((rd_T60 l0 x5_1).f2) _ _ ((rd_T60 l1 x5_1).f2) true _ ?side1 ?side2 ?side3 ?side4 A7.out).mono ?_); (case side1 => exact F2_); (case side2 => exact HC101_2.out); (case side3 => exact F3_); (case side4 => exact HC102_2.out); rintro e w' ⟨rfl, ⟨nd, rfl⟩⟩; (try first | exact ⟨rfl, _, World.drewN_drewN _ _ _⟩ | exact ⟨rfl, _, Eq.trans (World.drewN_drewN _ _ _) (congrArg (World.drewN _) (Nat.add_assoc _ _ _))⟩); have p104 : 0 ≤ (x5_1 : Int) := of_decide_eq_true F1_; have q104 : x5_1 < (l0.length : Int) := of_decide_eq_true F1_; obtain ⟨ad104, A104_2, c104_2, e104, hx104_0, hx104_1, hx104_2, hl104_2, hi104_2⟩ := at_T60 HR0.out x5_1 p104 q104; obtain rfl : ad101 = ad104 := (by injection e104); have HR104_2 := Aside0.mk hi104_2; have HC104_2 := Aside0.mk hl104_2; clear hi104_2 hl104_2; replace p104 := eq_true p104; replace q104 := eq_true q104; have ea_ := Option.some.inj (hx101_2.symm.trans hx104_2); injection ea_ with ea_ en_ ec_; subst ea_; subst ec_; clear en_; have p105 : 0 ≤ (x5_1 : Int) := of_decide_eq_true F1_; have q105 : x5_1 < (l1.length : Int) := of_decide_eq_true F1_; obtain ⟨ad105, A105_2, c105_2, e105, hx105_0, hx105_1, hx105_2, hl105_2, hi105_2⟩ := at_T60 HR1.out x5_1 p105 q105; obtain rfl : ad102 = ad105 := (by injection e105); have HR105_2 := Aside0.mk hi105_2; have HC105_2 := Aside0.mk hl105_2; clear hi105_2 hl105_2; replace p105 := eq_true p105; replace q105 := eq_true q105; have ea_ := Option.some.inj (hx102_2.symm.trans hx105_2); injection ea_ with ea_ en_ ec_; subst ea_; subst ec_; clear en_; have p106 : 0 ≤ (x5_1 : Int) := of_decide_eq_true F1_; have q106 : x5_1 < (l0.length : Int) := of_decide_eq_true F1_; obtain ⟨ad106, A106_2, c106_2, e106, hx106_0, hx106_1, hx106_2, hl106_2, hi106_2⟩ := at_T60 HR0.out x5_1 p106 q106; obtain rfl : ad101 = ad106 := (by injection e106); have HR106_2 := Aside0.mk hi106_2; have HC106_2 := Aside0.mk hl106_2; clear hi106_2 hl106_2; replace p106 := eq_true p106; replace q106 := eq_true q106; have ea_ := Option.some.inj (hx101_2.symm.trans hx106_2); injection ea_ with ea_ en_ ec_; subst ea_; subst ec_; clear en_; have p107 : 0 ≤ (x5_1 : Int) := of_decide_eq_true F1_; have q107 : x5_1 < (l1.length : Int) := of_decide_eq_true F1_; obtain ⟨ad107, A107_2, c107_2, e107, hx107_0, hx107_1, hx107_2, hl107_2, hi107_2⟩ := at_T60 HR1.out x5_1 p107 q107; obtain rfl : ad102 = ad107 := (by injection e107); have HR107_2 := Aside0.mk hi107_2; have HC107_2 := Aside0.mk hl107_2; clear hi107_2 hl107_2; replace p107 := eq_true p107; replace q107 := eq_true q107; have ea_ := Option.some.inj (hx102_2.symm.trans hx107_2); injection ea_ with ea_ en_ ec_; subst ea_; subst ec_; clear en_)))
                    go_roundg k1
                    case measure => have := HK1.out; omega
                    case rel => exact ⟨(wrap64 (x5_1 + 1)), (by first | rfl | (simp; done) | (simp [*]; done)), H', ⟨by have := HK1.out; omega⟩, by repeat (first | exact Drawn0.refl _ | apply Drawn0.step)⟩
                  · replace c10 := Bool.eq_false_iff.mpr c10
                    subst c10
                    have H1 : (some false) = some r := by rw [if_neg (show ¬ (false = true) by decide)] at H; exact H
                    clear H
                    have H := H1
                    clear H1
                    obtain rfl := Option.some.inj H
                    have p101 : 0 ≤ (x5_1 : Int) := of_decide_eq_true F1_
                    have q101 : x5_1 < (l0.length : Int) := of_decide_eq_true F1_
                    obtain ⟨ad101, A101_2, c101_2, e101, hx101_0, hx101_1, hx101_2, hl101_2, hi101_2⟩ := at_T60 HR0.out x5_1 p101 q101
                    cases e101
                    have HR101_2 := Aside0.mk hi101_2
                    have HC101_2 := Aside0.mk hl101_2
                    clear hi101_2 hl101_2
                    replace p101 := eq_true p101
                    replace q101 := eq_true q101
                    have p102 : 0 ≤ (x5_1 : Int) := of_decide_eq_true F1_
                    have q102 : x5_1 < (l1.length : Int) := of_decide_eq_true F1_
                    obtain ⟨ad102, A102_2, c102_2, e102, hx102_0, hx102_1, hx102_2, hl102_2, hi102_2⟩ := at_T60 HR1.out x5_1 p102 q102
                    cases e102
                    have HR102_2 := Aside0.mk hi102_2
                    have HC102_2 := Aside0.mk hl102_2
                    clear hi102_2 hl102_2
                    replace p102 := eq_true p102
                    replace q102 := eq_true q102
                    go_wp2_with (first | (go_at_call 102; (with_reducible refine (dunnageref04_SameMoves.calls k1 _ _ ((rd_T60 l0 x5_1).f2) _ _ ((rd_T60 l1 x5_1).f2) false _ ?side1 ?side2 ?side3 ?side4 A7.out).mono ?_); (case side1 => exact F2_); (case side2 => exact HC101_2.out); (case side3 => exact F3_); (case side4 => exact HC102_2.out); rintro e w' ⟨rfl, ⟨nd, rfl⟩⟩; (try first | exact ⟨rfl, _, World.drewN_drewN _ _ _⟩ | exact ⟨rfl, _, Eq.trans (World.drewN_drewN _ _ _) (congrArg (World.drewN _) (Nat.add_assoc _ _ _))⟩); have p104 : 0 ≤ (x5_1 : Int) := of_decide_eq_true F1_; have q104 : x5_1 < (l0.length : Int) := of_decide_eq_true F1_; obtain ⟨ad104, A104_2, c104_2, e104, hx104_0, hx104_1, hx104_2, hl104_2, hi104_2⟩ := at_T60 HR0.out x5_1 p104 q104; obtain rfl : ad101 = ad104 := (by injection e104); have HR104_2 := Aside0.mk hi104_2; have HC104_2 := Aside0.mk hl104_2; clear hi104_2 hl104_2; replace p104 := eq_true p104; replace q104 := eq_true q104; have ea_ := Option.some.inj (hx101_2.symm.trans hx104_2); injection ea_ with ea_ en_ ec_; subst ea_; subst ec_; clear en_; have p105 : 0 ≤ (x5_1 : Int) := of_decide_eq_true F1_; have q105 : x5_1 < (l1.length : Int) := of_decide_eq_true F1_; obtain ⟨ad105, A105_2, c105_2, e105, hx105_0, hx105_1, hx105_2, hl105_2, hi105_2⟩ := at_T60 HR1.out x5_1 p105 q105; obtain rfl : ad102 = ad105 := (by injection e105); have HR105_2 := Aside0.mk hi105_2; have HC105_2 := Aside0.mk hl105_2; clear hi105_2 hl105_2; replace p105 := eq_true p105; replace q105 := eq_true q105; have ea_ := Option.some.inj (hx102_2.symm.trans hx105_2); injection ea_ with ea_ en_ ec_; subst ea_; subst ec_; clear en_; have p106 : 0 ≤ (x5_1 : Int) := of_decide_eq_true F1_; have q106 : x5_1 < (l0.length : Int) := of_decide_eq_true F1_; obtain ⟨ad106, A106_2, c106_2, e106, hx106_0, hx106_1, hx106_2, hl106_2, hi106_2⟩ := at_T60 HR0.out x5_1 p106 q106; obtain rfl : ad101 = ad106 := (by injection e106); have HR106_2 := Aside0.mk hi106_2; have HC106_2 := Aside0.mk hl106_2; clear hi106_2 hl106_2; replace p106 := eq_true p106; replace q106 := eq_true q106; have ea_ := Option.some.inj (hx101_2.symm.trans hx106_2); injection ea_ with ea_ en_ ec_; subst ea_; subst ec_; clear en_; have p107 : 0 ≤ (x5_1 : Int) := of_decide_eq_true F1_; have q107 : x5_1 < (l1.length : Int) := of_decide_eq_true F1_; obtain ⟨ad107, A107_2, c107_2, e107, hx107_0, hx107_1, hx107_2, hl107_2, hi107_2⟩ := at_T60 HR1.out x5_1 p107 q107; obtain rfl : ad102 = ad107 := (by injection e107); have HR107_2 := Aside0.mk hi107_2; have HC107_2 := Aside0.mk hl107_2; clear hi107_2 hl107_2; replace p107 := eq_true p107; replace q107 := eq_true q107; have ea_ := Option.some.inj (hx102_2.symm.trans hx107_2); injection ea_ with ea_ en_ ec_; subst ea_; subst ec_; clear en_))
                    repeat (go_quiet (first | (go_at_call 102; (with_reducible refine (dunnageref04_SameMoves.calls k1 _ _ ((rd_T60 l0 x5_1).f2) _ _ ((rd_T60 l1 x5_1).f2) false _ ?side1 ?side2 ?side3 ?side4 A7.out).mono ?_); (case side1 => exact F2_); (case side2 => exact HC101_2.out); (case side3 => exact F3_); (case side4 => exact HC102_2.out); rintro e w' ⟨rfl, ⟨nd, rfl⟩⟩; (try first | exact ⟨rfl, _, World.drewN_drewN _ _ _⟩ | exact ⟨rfl, _, Eq.trans (World.drewN_drewN _ _ _) (congrArg (World.drewN _) (Nat.add_assoc _ _ _))⟩); have p104 : 0 ≤ (x5_1 : Int) := of_decide_eq_true F1_; have q104 : x5_1 < (l0.length : Int) := of_decide_eq_true F1_; obtain ⟨ad104, A104_2, c104_2, e104, hx104_0, hx104_1, hx104_2, hl104_2, hi104_2⟩ := at_T60 HR0.out x5_1 p104 q104; obtain rfl : ad101 = ad104 := (by injection e104); have HR104_2 := Aside0.mk hi104_2; have HC104_2 := Aside0.mk hl104_2; clear hi104_2 hl104_2; replace p104 := eq_true p104; replace q104 := eq_true q104; have ea_ := Option.some.inj (hx101_2.symm.trans hx104_2); injection ea_ with ea_ en_ ec_; subst ea_; subst ec_; clear en_; have p105 : 0 ≤ (x5_1 : Int) := of_decide_eq_true F1_; have q105 : x5_1 < (l1.length : Int) := of_decide_eq_true F1_; obtain ⟨ad105, A105_2, c105_2, e105, hx105_0, hx105_1, hx105_2, hl105_2, hi105_2⟩ := at_T60 HR1.out x5_1 p105 q105; obtain rfl : ad102 = ad105 := (by injection e105); have HR105_2 := Aside0.mk hi105_2; have HC105_2 := Aside0.mk hl105_2; clear hi105_2 hl105_2; replace p105 := eq_true p105; replace q105 := eq_true q105; have ea_ := Option.some.inj (hx102_2.symm.trans hx105_2); injection ea_ with ea_ en_ ec_; subst ea_; subst ec_; clear en_; have p106 : 0 ≤ (x5_1 : Int) := of_decide_eq_true F1_; have q106 : x5_1 < (l0.length : Int) := of_decide_eq_true F1_; obtain ⟨ad106, A106_2, c106_2, e106, hx106_0, hx106_1, hx106_2, hl106_2, hi106_2⟩ := at_T60 HR0.out x5_1 p106 q106; obtain rfl : ad101 = ad106 := (by injection e106); have HR106_2 := Aside0.mk hi106_2; have HC106_2 := Aside0.mk hl106_2; clear hi106_2 hl106_2; replace p106 := eq_true p106; replace q106 := eq_true q106; have ea_ := Option.some.inj (hx101_2.symm.trans hx106_2); injection ea_ with ea_ en_ ec_; subst ea_; subst ec_; clear en_; have p107 : 0 ≤ (x5_1 : Int) := of_decide_eq_true F1_; have q107 : x5_1 < (l1.length : Int) := of_decide_eq_true F1_; obtain ⟨ad107, A107_2, c107_2, e107, hx107_0, hx107_1, hx107_2, hl107_2, hi107_2⟩ := at_T60 HR1.out x5_1 p107 q107; obtain rfl : ad102 = ad107 := (by injection e107); have HR107_2 := Aside0.mk hi107_2; have HC107_2 := Aside0.mk hl107_2; clear hi107_2 hl107_2; replace p107 := eq_true p107; replace q107 := eq_true q107; have ea_ := Option.some.inj (hx102_2.symm.trans hx107_2); injection ea_ with ea_ en_ ec_; subst ea_; subst ec_; clear en_)); try go_wp2_with (first | (go_at_call 102; (with_reducible refine (dunnageref04_SameMoves.calls k1 _ _ ((rd_T60 l0 x5_1).f2) _ _ ((rd_T60 l1 x5_1).f2) false _ ?side1 ?side2 ?side3 ?side4 A7.out).mono ?_); (case side1 => exact F2_); (case side2 => exact HC101_2.out); (case side3 => exact F3_); (case side4 => exact HC102_2.out); rintro e w' ⟨rfl, ⟨nd, rfl⟩⟩; (try first | exact ⟨rfl, _, World.drewN_drewN _ _ _⟩ | exact ⟨rfl, _, Eq.trans (World.drewN_drewN _ _ _) (congrArg (World.drewN _) (Nat.add_assoc _ _ _))⟩); have p104 : 0 ≤ (x5_1 : Int) := of_decide_eq_true F1_; have q104 : x5_1 < (l0.length : Int) := of_decide_eq_true F1_; obtain ⟨ad104, A104_2, c104_2, e104, hx104_0, hx104_1, hx104_2, hl104_2, hi104_2⟩ := at_T60 HR0.out x5_1 p104 q104; obtain rfl : ad101 = ad104 := (by injection e104); have HR104_2 := Aside0.mk hi104_2; have HC104_2 := Aside0.mk hl104_2; clear hi104_2 hl104_2; replace p104 := eq_true p104; replace q104 := eq_true q104; have ea_ := Option.some.inj (hx101_2.symm.trans hx104_2); injection ea_ with ea_ en_ ec_; subst ea_; subst ec_; clear en_; have p105 : 0 ≤ (x5_1 : Int) := of_decide_eq_true F1_; have q105 : x5_1 < (l1.length : Int) := of_decide_eq_true F1_; obtain ⟨ad105, A105_2, c105_2, e105, hx105_0, hx105_1, hx105_2, hl105_2, hi105_2⟩ := at_T60 HR1.out x5_1 p105 q105; obtain rfl : ad102 = ad105 := (by injection e105); have HR105_2 := Aside0.mk hi105_2; have HC105_2 := Aside0.mk hl105_2; clear hi105_2 hl105_2; replace p105 := eq_true p105; replace q105 := eq_true q105; have ea_ := Option.some.inj (hx102_2.symm.trans hx105_2); injection ea_ with ea_ en_ ec_; subst ea_; subst ec_; clear en_; have p106 : 0 ≤ (x5_1 : Int) := of_decide_eq_true F1_; have q106 : x5_1 < (l0.length : Int) := of_decide_eq_true F1_; obtain ⟨ad106, A106_2, c106_2, e106, hx106_0, hx106_1, hx106_2, hl106_2, hi106_2⟩ := at_T60 HR0.out x5_1 p106 q106; obtain rfl : ad101 = ad106 := (by injection e106); have HR106_2 := Aside0.mk hi106_2; have HC106_2 := Aside0.mk hl106_2; clear hi106_2 hl106_2; replace p106 := eq_true p106; replace q106 := eq_true q106; have ea_ := Option.some.inj (hx101_2.symm.trans hx106_2); injection ea_ with ea_ en_ ec_; subst ea_; subst ec_; clear en_; have p107 : 0 ≤ (x5_1 : Int) := of_decide_eq_true F1_; have q107 : x5_1 < (l1.length : Int) := of_decide_eq_true F1_; obtain ⟨ad107, A107_2, c107_2, e107, hx107_0, hx107_1, hx107_2, hl107_2, hi107_2⟩ := at_T60 HR1.out x5_1 p107 q107; obtain rfl : ad102 = ad107 := (by injection e107); have HR107_2 := Aside0.mk hi107_2; have HC107_2 := Aside0.mk hl107_2; clear hi107_2 hl107_2; replace p107 := eq_true p107; replace q107 := eq_true q107; have ea_ := Option.some.inj (hx102_2.symm.trans hx107_2); injection ea_ with ea_ en_ ec_; subst ea_; subst ec_; clear en_)))
                    go_ret
                    exact ⟨by first | rfl | (simp; done) | (simp [*]; done), by repeat (first | exact Drawn0.refl _ | apply Drawn0.step)⟩
                · rw [if_neg c9] at H
                  have c9b0 : (((rd_T60 l0 x5_1).f1) == ((rd_T60 l1 x5_1).f1)) = false := beq_eq_false_iff_ne.mpr c9
                  have c9b1 : (((rd_T60 l0 x5_1).f1) != ((rd_T60 l1 x5_1).f1)) = true := bne_iff_ne.mpr c9
                  obtain rfl := Option.some.inj H
                  have p101 : 0 ≤ (x5_1 : Int) := of_decide_eq_true F1_
                  have q101 : x5_1 < (l0.length : Int) := of_decide_eq_true F1_
                  obtain ⟨ad101, A101_2, c101_2, e101, hx101_0, hx101_1, hx101_2, hl101_2, hi101_2⟩ := at_T60 HR0.out x5_1 p101 q101
                  cases e101
                  have HR101_2 := Aside0.mk hi101_2
                  have HC101_2 := Aside0.mk hl101_2
                  clear hi101_2 hl101_2
                  replace p101 := eq_true p101
                  replace q101 := eq_true q101
                  have p102 : 0 ≤ (x5_1 : Int) := of_decide_eq_true F1_
                  have q102 : x5_1 < (l1.length : Int) := of_decide_eq_true F1_
                  obtain ⟨ad102, A102_2, c102_2, e102, hx102_0, hx102_1, hx102_2, hl102_2, hi102_2⟩ := at_T60 HR1.out x5_1 p102 q102
                  cases e102
                  have HR102_2 := Aside0.mk hi102_2
                  have HC102_2 := Aside0.mk hl102_2
                  clear hi102_2 hl102_2
                  replace p102 := eq_true p102
                  replace q102 := eq_true q102
                  go_wp2_with (first | (go_at_call 102; (with_reducible refine (dunnageref04_SameMoves.calls k1 _ _ ((rd_T60 l0 x5_1).f2) _ _ ((rd_T60 l1 x5_1).f2) t103 _ ?side1 ?side2 ?side3 ?side4 A7.out).mono ?_); (case side1 => exact F2_); (case side2 => exact HC101_2.out); (case side3 => exact F3_); (case side4 => exact HC102_2.out); rintro e w' ⟨rfl, ⟨nd, rfl⟩⟩; (try first | exact ⟨rfl, _, World.drewN_drewN _ _ _⟩ | exact ⟨rfl, _, Eq.trans (World.drewN_drewN _ _ _) (congrArg (World.drewN _) (Nat.add_assoc _ _ _))⟩); have p104 : 0 ≤ (x5_1 : Int) := of_decide_eq_true F1_; have q104 : x5_1 < (l0.length : Int) := of_decide_eq_true F1_; obtain ⟨ad104, A104_2, c104_2, e104, hx104_0, hx104_1, hx104_2, hl104_2, hi104_2⟩ := at_T60 HR0.out x5_1 p104 q104; obtain rfl : ad101 = ad104 := (by injection e104); have HR104_2 := Aside0.mk hi104_2; have HC104_2 := Aside0.mk hl104_2; clear hi104_2 hl104_2; replace p104 := eq_true p104; replace q104 := eq_true q104; have ea_ := Option.some.inj (hx101_2.symm.trans hx104_2); injection ea_ with ea_ en_ ec_; subst ea_; subst ec_; clear en_; have p105 : 0 ≤ (x5_1 : Int) := of_decide_eq_true F1_; have q105 : x5_1 < (l1.length : Int) := of_decide_eq_true F1_; obtain ⟨ad105, A105_2, c105_2, e105, hx105_0, hx105_1, hx105_2, hl105_2, hi105_2⟩ := at_T60 HR1.out x5_1 p105 q105; obtain rfl : ad102 = ad105 := (by injection e105); have HR105_2 := Aside0.mk hi105_2; have HC105_2 := Aside0.mk hl105_2; clear hi105_2 hl105_2; replace p105 := eq_true p105; replace q105 := eq_true q105; have ea_ := Option.some.inj (hx102_2.symm.trans hx105_2); injection ea_ with ea_ en_ ec_; subst ea_; subst ec_; clear en_; have p106 : 0 ≤ (x5_1 : Int) := of_decide_eq_true F1_; have q106 : x5_1 < (l0.length : Int) := of_decide_eq_true F1_; obtain ⟨ad106, A106_2, c106_2, e106, hx106_0, hx106_1, hx106_2, hl106_2, hi106_2⟩ := at_T60 HR0.out x5_1 p106 q106; obtain rfl : ad101 = ad106 := (by injection e106); have HR106_2 := Aside0.mk hi106_2; have HC106_2 := Aside0.mk hl106_2; clear hi106_2 hl106_2; replace p106 := eq_true p106; replace q106 := eq_true q106; have ea_ := Option.some.inj (hx101_2.symm.trans hx106_2); injection ea_ with ea_ en_ ec_; subst ea_; subst ec_; clear en_; have p107 : 0 ≤ (x5_1 : Int) := of_decide_eq_true F1_; have q107 : x5_1 < (l1.length : Int) := of_decide_eq_true F1_; obtain ⟨ad107, A107_2, c107_2, e107, hx107_0, hx107_1, hx107_2, hl107_2, hi107_2⟩ := at_T60 HR1.out x5_1 p107 q107; obtain rfl : ad102 = ad107 := (by injection e107); have HR107_2 := Aside0.mk hi107_2; have HC107_2 := Aside0.mk hl107_2; clear hi107_2 hl107_2; replace p107 := eq_true p107; replace q107 := eq_true q107; have ea_ := Option.some.inj (hx102_2.symm.trans hx107_2); injection ea_ with ea_ en_ ec_; subst ea_; subst ec_; clear en_))
                  repeat (go_quiet (first | (go_at_call 102; (with_reducible refine (dunnageref04_SameMoves.calls k1 _ _ ((rd_T60 l0 x5_1).f2) _ _ ((rd_T60 l1 x5_1).f2) t103 _ ?side1 ?side2 ?side3 ?side4 A7.out).mono ?_); (case side1 => exact F2_); (case side2 => exact HC101_2.out); (case side3 => exact F3_); (case side4 => exact HC102_2.out); rintro e w' ⟨rfl, ⟨nd, rfl⟩⟩; (try first | exact ⟨rfl, _, World.drewN_drewN _ _ _⟩ | exact ⟨rfl, _, Eq.trans (World.drewN_drewN _ _ _) (congrArg (World.drewN _) (Nat.add_assoc _ _ _))⟩); have p104 : 0 ≤ (x5_1 : Int) := of_decide_eq_true F1_; have q104 : x5_1 < (l0.length : Int) := of_decide_eq_true F1_; obtain ⟨ad104, A104_2, c104_2, e104, hx104_0, hx104_1, hx104_2, hl104_2, hi104_2⟩ := at_T60 HR0.out x5_1 p104 q104; obtain rfl : ad101 = ad104 := (by injection e104); have HR104_2 := Aside0.mk hi104_2; have HC104_2 := Aside0.mk hl104_2; clear hi104_2 hl104_2; replace p104 := eq_true p104; replace q104 := eq_true q104; have ea_ := Option.some.inj (hx101_2.symm.trans hx104_2); injection ea_ with ea_ en_ ec_; subst ea_; subst ec_; clear en_; have p105 : 0 ≤ (x5_1 : Int) := of_decide_eq_true F1_; have q105 : x5_1 < (l1.length : Int) := of_decide_eq_true F1_; obtain ⟨ad105, A105_2, c105_2, e105, hx105_0, hx105_1, hx105_2, hl105_2, hi105_2⟩ := at_T60 HR1.out x5_1 p105 q105; obtain rfl : ad102 = ad105 := (by injection e105); have HR105_2 := Aside0.mk hi105_2; have HC105_2 := Aside0.mk hl105_2; clear hi105_2 hl105_2; replace p105 := eq_true p105; replace q105 := eq_true q105; have ea_ := Option.some.inj (hx102_2.symm.trans hx105_2); injection ea_ with ea_ en_ ec_; subst ea_; subst ec_; clear en_; have p106 : 0 ≤ (x5_1 : Int) := of_decide_eq_true F1_; have q106 : x5_1 < (l0.length : Int) := of_decide_eq_true F1_; obtain ⟨ad106, A106_2, c106_2, e106, hx106_0, hx106_1, hx106_2, hl106_2, hi106_2⟩ := at_T60 HR0.out x5_1 p106 q106; obtain rfl : ad101 = ad106 := (by injection e106); have HR106_2 := Aside0.mk hi106_2; have HC106_2 := Aside0.mk hl106_2; clear hi106_2 hl106_2; replace p106 := eq_true p106; replace q106 := eq_true q106; have ea_ := Option.some.inj (hx101_2.symm.trans hx106_2); injection ea_ with ea_ en_ ec_; subst ea_; subst ec_; clear en_; have p107 : 0 ≤ (x5_1 : Int) := of_decide_eq_true F1_; have q107 : x5_1 < (l1.length : Int) := of_decide_eq_true F1_; obtain ⟨ad107, A107_2, c107_2, e107, hx107_0, hx107_1, hx107_2, hl107_2, hi107_2⟩ := at_T60 HR1.out x5_1 p107 q107; obtain rfl : ad102 = ad107 := (by injection e107); have HR107_2 := Aside0.mk hi107_2; have HC107_2 := Aside0.mk hl107_2; clear hi107_2 hl107_2; replace p107 := eq_true p107; replace q107 := eq_true q107; have ea_ := Option.some.inj (hx102_2.symm.trans hx107_2); injection ea_ with ea_ en_ ec_; subst ea_; subst ec_; clear en_)); try go_wp2_with (first | (go_at_call 102; (with_reducible refine (dunnageref04_SameMoves.calls k1 _ _ ((rd_T60 l0 x5_1).f2) _ _ ((rd_T60 l1 x5_1).f2) t103 _ ?side1 ?side2 ?side3 ?side4 A7.out).mono ?_); (case side1 => exact F2_); (case side2 => exact HC101_2.out); (case side3 => exact F3_); (case side4 => exact HC102_2.out); rintro e w' ⟨rfl, ⟨nd, rfl⟩⟩; (try first | exact ⟨rfl, _, World.drewN_drewN _ _ _⟩ | exact ⟨rfl, _, Eq.trans (World.drewN_drewN _ _ _) (congrArg (World.drewN _) (Nat.add_assoc _ _ _))⟩); have p104 : 0 ≤ (x5_1 : Int) := of_decide_eq_true F1_; have q104 : x5_1 < (l0.length : Int) := of_decide_eq_true F1_; obtain ⟨ad104, A104_2, c104_2, e104, hx104_0, hx104_1, hx104_2, hl104_2, hi104_2⟩ := at_T60 HR0.out x5_1 p104 q104; obtain rfl : ad101 = ad104 := (by injection e104); have HR104_2 := Aside0.mk hi104_2; have HC104_2 := Aside0.mk hl104_2; clear hi104_2 hl104_2; replace p104 := eq_true p104; replace q104 := eq_true q104; have ea_ := Option.some.inj (hx101_2.symm.trans hx104_2); injection ea_ with ea_ en_ ec_; subst ea_; subst ec_; clear en_; have p105 : 0 ≤ (x5_1 : Int) := of_decide_eq_true F1_; have q105 : x5_1 < (l1.length : Int) := of_decide_eq_true F1_; obtain ⟨ad105, A105_2, c105_2, e105, hx105_0, hx105_1, hx105_2, hl105_2, hi105_2⟩ := at_T60 HR1.out x5_1 p105 q105; obtain rfl : ad102 = ad105 := (by injection e105); have HR105_2 := Aside0.mk hi105_2; have HC105_2 := Aside0.mk hl105_2; clear hi105_2 hl105_2; replace p105 := eq_true p105; replace q105 := eq_true q105; have ea_ := Option.some.inj (hx102_2.symm.trans hx105_2); injection ea_ with ea_ en_ ec_; subst ea_; subst ec_; clear en_; have p106 : 0 ≤ (x5_1 : Int) := of_decide_eq_true F1_; have q106 : x5_1 < (l0.length : Int) := of_decide_eq_true F1_; obtain ⟨ad106, A106_2, c106_2, e106, hx106_0, hx106_1, hx106_2, hl106_2, hi106_2⟩ := at_T60 HR0.out x5_1 p106 q106; obtain rfl : ad101 = ad106 := (by injection e106); have HR106_2 := Aside0.mk hi106_2; have HC106_2 := Aside0.mk hl106_2; clear hi106_2 hl106_2; replace p106 := eq_true p106; replace q106 := eq_true q106; have ea_ := Option.some.inj (hx101_2.symm.trans hx106_2); injection ea_ with ea_ en_ ec_; subst ea_; subst ec_; clear en_; have p107 : 0 ≤ (x5_1 : Int) := of_decide_eq_true F1_; have q107 : x5_1 < (l1.length : Int) := of_decide_eq_true F1_; obtain ⟨ad107, A107_2, c107_2, e107, hx107_0, hx107_1, hx107_2, hl107_2, hi107_2⟩ := at_T60 HR1.out x5_1 p107 q107; obtain rfl : ad102 = ad107 := (by injection e107); have HR107_2 := Aside0.mk hi107_2; have HC107_2 := Aside0.mk hl107_2; clear hi107_2 hl107_2; replace p107 := eq_true p107; replace q107 := eq_true q107; have ea_ := Option.some.inj (hx102_2.symm.trans hx107_2); injection ea_ with ea_ en_ ec_; subst ea_; subst ec_; clear en_)))
                  go_ret
                  exact ⟨by first | rfl | (simp; done) | (simp [*]; done), by repeat (first | exact Drawn0.refl _ | apply Drawn0.step)⟩
              · rw [if_neg c8] at H
                have c8b0 : (((rd_T60 l0 x5_1).f0) == ((rd_T60 l1 x5_1).f0)) = false := beq_eq_false_iff_ne.mpr c8
                have c8b1 : (((rd_T60 l0 x5_1).f0) != ((rd_T60 l1 x5_1).f0)) = true := bne_iff_ne.mpr c8
                obtain rfl := Option.some.inj H
                have p101 : 0 ≤ (x5_1 : Int) := of_decide_eq_true F1_
                have q101 : x5_1 < (l0.length : Int) := of_decide_eq_true F1_
                obtain ⟨ad101, A101_2, c101_2, e101, hx101_0, hx101_1, hx101_2, hl101_2, hi101_2⟩ := at_T60 HR0.out x5_1 p101 q101
                cases e101
                have HR101_2 := Aside0.mk hi101_2
                have HC101_2 := Aside0.mk hl101_2
                clear hi101_2 hl101_2
                replace p101 := eq_true p101
                replace q101 := eq_true q101
                have p102 : 0 ≤ (x5_1 : Int) := of_decide_eq_true F1_
                have q102 : x5_1 < (l1.length : Int) := of_decide_eq_true F1_
                obtain ⟨ad102, A102_2, c102_2, e102, hx102_0, hx102_1, hx102_2, hl102_2, hi102_2⟩ := at_T60 HR1.out x5_1 p102 q102
                cases e102
                have HR102_2 := Aside0.mk hi102_2
                have HC102_2 := Aside0.mk hl102_2
                clear hi102_2 hl102_2
                replace p102 := eq_true p102
                replace q102 := eq_true q102
                go_wp2_with (first | (go_at_call 102; (with_reducible refine (dunnageref04_SameMoves.calls k1 _ _ ((rd_T60 l0 x5_1).f2) _ _ ((rd_T60 l1 x5_1).f2) t103 _ ?side1 ?side2 ?side3 ?side4 A7.out).mono ?_); (case side1 => exact F2_); (case side2 => exact HC101_2.out); (case side3 => exact F3_); (case side4 => exact HC102_2.out); rintro e w' ⟨rfl, ⟨nd, rfl⟩⟩; (try first | exact ⟨rfl, _, World.drewN_drewN _ _ _⟩ | exact ⟨rfl, _, Eq.trans (World.drewN_drewN _ _ _) (congrArg (World.drewN _) (Nat.add_assoc _ _ _))⟩); have p104 : 0 ≤ (x5_1 : Int) := of_decide_eq_true F1_; have q104 : x5_1 < (l0.length : Int) := of_decide_eq_true F1_; obtain ⟨ad104, A104_2, c104_2, e104, hx104_0, hx104_1, hx104_2, hl104_2, hi104_2⟩ := at_T60 HR0.out x5_1 p104 q104; obtain rfl : ad101 = ad104 := (by injection e104); have HR104_2 := Aside0.mk hi104_2; have HC104_2 := Aside0.mk hl104_2; clear hi104_2 hl104_2; replace p104 := eq_true p104; replace q104 := eq_true q104; have ea_ := Option.some.inj (hx101_2.symm.trans hx104_2); injection ea_ with ea_ en_ ec_; subst ea_; subst ec_; clear en_; have p105 : 0 ≤ (x5_1 : Int) := of_decide_eq_true F1_; have q105 : x5_1 < (l1.length : Int) := of_decide_eq_true F1_; obtain ⟨ad105, A105_2, c105_2, e105, hx105_0, hx105_1, hx105_2, hl105_2, hi105_2⟩ := at_T60 HR1.out x5_1 p105 q105; obtain rfl : ad102 = ad105 := (by injection e105); have HR105_2 := Aside0.mk hi105_2; have HC105_2 := Aside0.mk hl105_2; clear hi105_2 hl105_2; replace p105 := eq_true p105; replace q105 := eq_true q105; have ea_ := Option.some.inj (hx102_2.symm.trans hx105_2); injection ea_ with ea_ en_ ec_; subst ea_; subst ec_; clear en_))
                repeat (go_quiet (first | (go_at_call 102; (with_reducible refine (dunnageref04_SameMoves.calls k1 _ _ ((rd_T60 l0 x5_1).f2) _ _ ((rd_T60 l1 x5_1).f2) t103 _ ?side1 ?side2 ?side3 ?side4 A7.out).mono ?_); (case side1 => exact F2_); (case side2 => exact HC101_2.out); (case side3 => exact F3_); (case side4 => exact HC102_2.out); rintro e w' ⟨rfl, ⟨nd, rfl⟩⟩; (try first | exact ⟨rfl, _, World.drewN_drewN _ _ _⟩ | exact ⟨rfl, _, Eq.trans (World.drewN_drewN _ _ _) (congrArg (World.drewN _) (Nat.add_assoc _ _ _))⟩); have p104 : 0 ≤ (x5_1 : Int) := of_decide_eq_true F1_; have q104 : x5_1 < (l0.length : Int) := of_decide_eq_true F1_; obtain ⟨ad104, A104_2, c104_2, e104, hx104_0, hx104_1, hx104_2, hl104_2, hi104_2⟩ := at_T60 HR0.out x5_1 p104 q104; obtain rfl : ad101 = ad104 := (by injection e104); have HR104_2 := Aside0.mk hi104_2; have HC104_2 := Aside0.mk hl104_2; clear hi104_2 hl104_2; replace p104 := eq_true p104; replace q104 := eq_true q104; have ea_ := Option.some.inj (hx101_2.symm.trans hx104_2); injection ea_ with ea_ en_ ec_; subst ea_; subst ec_; clear en_; have p105 : 0 ≤ (x5_1 : Int) := of_decide_eq_true F1_; have q105 : x5_1 < (l1.length : Int) := of_decide_eq_true F1_; obtain ⟨ad105, A105_2, c105_2, e105, hx105_0, hx105_1, hx105_2, hl105_2, hi105_2⟩ := at_T60 HR1.out x5_1 p105 q105; obtain rfl : ad102 = ad105 := (by injection e105); have HR105_2 := Aside0.mk hi105_2; have HC105_2 := Aside0.mk hl105_2; clear hi105_2 hl105_2; replace p105 := eq_true p105; replace q105 := eq_true q105; have ea_ := Option.some.inj (hx102_2.symm.trans hx105_2); injection ea_ with ea_ en_ ec_; subst ea_; subst ec_; clear en_)); try go_wp2_with (first | (go_at_call 102; (with_reducible refine (dunnageref04_SameMoves.calls k1 _ _ ((rd_T60 l0 x5_1).f2) _ _ ((rd_T60 l1 x5_1).f2) t103 _ ?side1 ?side2 ?side3 ?side4 A7.out).mono ?_); (case side1 => exact F2_); (case side2 => exact HC101_2.out); (case side3 => exact F3_); (case side4 => exact HC102_2.out); rintro e w' ⟨rfl, ⟨nd, rfl⟩⟩; (try first | exact ⟨rfl, _, World.drewN_drewN _ _ _⟩ | exact ⟨rfl, _, Eq.trans (World.drewN_drewN _ _ _) (congrArg (World.drewN _) (Nat.add_assoc _ _ _))⟩); have p104 : 0 ≤ (x5_1 : Int) := of_decide_eq_true F1_; have q104 : x5_1 < (l0.length : Int) := of_decide_eq_true F1_; obtain ⟨ad104, A104_2, c104_2, e104, hx104_0, hx104_1, hx104_2, hl104_2, hi104_2⟩ := at_T60 HR0.out x5_1 p104 q104; obtain rfl : ad101 = ad104 := (by injection e104); have HR104_2 := Aside0.mk hi104_2; have HC104_2 := Aside0.mk hl104_2; clear hi104_2 hl104_2; replace p104 := eq_true p104; replace q104 := eq_true q104; have ea_ := Option.some.inj (hx101_2.symm.trans hx104_2); injection ea_ with ea_ en_ ec_; subst ea_; subst ec_; clear en_; have p105 : 0 ≤ (x5_1 : Int) := of_decide_eq_true F1_; have q105 : x5_1 < (l1.length : Int) := of_decide_eq_true F1_; obtain ⟨ad105, A105_2, c105_2, e105, hx105_0, hx105_1, hx105_2, hl105_2, hi105_2⟩ := at_T60 HR1.out x5_1 p105 q105; obtain rfl : ad102 = ad105 := (by injection e105); have HR105_2 := Aside0.mk hi105_2; have HC105_2 := Aside0.mk hl105_2; clear hi105_2 hl105_2; replace p105 := eq_true p105; replace q105 := eq_true q105; have ea_ := Option.some.inj (hx102_2.symm.trans hx105_2); injection ea_ with ea_ en_ ec_; subst ea_; subst ec_; clear en_)))
                go_ret
                exact ⟨by first | rfl | (simp; done) | (simp [*]; done), by repeat (first | exact Drawn0.refl _ | apply Drawn0.step)⟩
            · rw [if_neg c6] at H
              exact absurd H (by simp)
          · rw [if_neg c5] at H
            exact absurd H (by simp)
        · rw [if_neg c4] at H
          have c4b0 : decide (x5_1 < (l0.length : Int)) = false := decide_eq_false c4
          clear c4
          obtain rfl := Option.some.inj H
          go_wp2
          repeat (go_quiet (fail); try go_wp2)
          go_ret
          exact ⟨by first | rfl | (simp; done) | (simp [*]; done), by repeat (first | exact Drawn0.refl _ | apply Drawn0.step)⟩
  · rw [if_neg c3] at H
    have c3b0 : ((l0.length : Int) == (l1.length : Int)) = false := beq_eq_false_iff_ne.mpr c3
    have c3b1 : ((l0.length : Int) != (l1.length : Int)) = true := bne_iff_ne.mpr c3
    have c3b2 : (l0.length == l1.length) = false := by first | simpa using c3 | (simp at c3 ⊢; omega)
    obtain rfl := Option.some.inj H
    go_enter Try.func57, Try.ntmps57
    go_wp2
    repeat (go_quiet (fail); try go_wp2)
    go_ret
    exact ⟨by first | rfl | (simp; done) | (simp [*]; done), by repeat (first | exact Drawn0.refl _ | apply Drawn0.step)⟩

end Go.Proofs.Ytppfkbigeknedaa.Q
