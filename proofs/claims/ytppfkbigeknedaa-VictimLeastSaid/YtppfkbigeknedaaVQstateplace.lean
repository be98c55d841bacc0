import Derived.Test.YtppfkbigeknedaaVQ0
namespace Go.Proofs.Ytppfkbigeknedaa.Q
open Go.RowKit Go.Proofs.YtppfkbigeknedaaW.PrintWords Go.Proofs.YtppfkbigeknedaaW.PrintLast Go.Proofs.YtppfkbigeknedaaW.PrintMore
attribute [local go_sem] max2_int min2_int max_two min_two max_three min_three max_four min_four   -- for this text's walks alone
set_option linter.unusedVariables false
set_option linter.unusedSimpArgs false

attribute [local go_sem] eqe_ii eqe_nn eqe_ni eqe_nni
def podV (x : S70) : Value := .agg #[.int .i64 x.f0, .int .i64 x.f1, .int .i64 x.f2, .int .u64 x.f3.f0, .int .u64 x.f3.f1, .int .u64 x.f3.f2, .int .u64 x.f3.f3, .int .i64 x.f4]
def idxP (p : S70 → Bool) : List S70 → Int → Int
  | [], _ => -1
  | x :: l, i => if p x = true then i else idxP p l (i + 1)
set_option maxHeartbeats 8000000 in
theorem indexFunc_pod (g : Nat) (lb : Array Value) (p : S70 → Bool) (eg : ∀ args w, (callFunc g args).run Try.prog w = .ok (.enter g args) w) (xs : List S70) (A : Option Addr) (c : Nat) (w : World) (hC : Kd.C k70 w A xs.length xs)
    (hp : ∀ W x, x ∈ xs → Below w.heap.size w W → Calls Try.prog g (#[podV x] ++ lb) W fun e w' => e = .returned (.bool (p x)) ∧ Below W.heap.size W w') :
    Calls Try.prog 122 #[.slice A xs.length c, .func (.func g) #[] lb] w fun e w' => e = .returned (.int .i64 (idxP p xs 0)) ∧ Below w.heap.size w w' := by
  have HC := Aside0.mk hC
  have HP := Aside0.mk hp
  clear hC hp
  go_enter Try.func122, Try.ntmps122
  go_wp2
  go_loopw [8] (fun v8 w' => ∃ i : Nat, v8 = .int .i64 i ∧ i ≤ xs.length ∧ Aside0 (idxP p xs 0 = idxP p (xs.drop i) i) ∧ Aside0 (Below w.heap.size w w')) (fun v8 _ => xs.length - (intOf v8).toNat)
  case atStart => exact ⟨0, rfl, by omega, ⟨rfl⟩, ⟨Below.refl _ _⟩⟩
  case round =>
    obtain ⟨i, rfl, hi, HI, HB⟩ := hrel
    have hmx : xs.length ≤ 9223372036854775807 := HC.out.2.1
    by_cases hlt : i < xs.length
    · have hlb : decide ((i : Int) < (xs.length : Int)) = true := decide_eq_true (by omega)
      have hp0 : 0 ≤ (i : Int) := by omega
      have hq0 : (i : Int) < (xs.length : Int) := by omega
      obtain ⟨ad, e, h0, h1, h2, h3, h4, h5, h6, h7⟩ := at_T70 HC.out (i : Int) hp0 hq0
      cases e
      obtain ⟨x, hx⟩ : ∃ x, rd_T70 xs (i : Int) = x := ⟨_, rfl⟩
      rw [hx] at h0 h1 h2 h3 h4 h5 h6 h7
      simp only [Int.toNat_natCast] at h0 h1 h2 h3 h4 h5 h6 h7
      replace h0 := (HB.out.cell (World.block_lt_of_cell? w _ h0)).trans h0
      replace h1 := (HB.out.cell (World.block_lt_of_cell? w _ h1)).trans h1
      replace h2 := (HB.out.cell (World.block_lt_of_cell? w _ h2)).trans h2
      replace h3 := (HB.out.cell (World.block_lt_of_cell? w _ h3)).trans h3
      replace h4 := (HB.out.cell (World.block_lt_of_cell? w _ h4)).trans h4
      replace h5 := (HB.out.cell (World.block_lt_of_cell? w _ h5)).trans h5
      replace h6 := (HB.out.cell (World.block_lt_of_cell? w _ h6)).trans h6
      replace h7 := (HB.out.cell (World.block_lt_of_cell? w _ h7)).trans h7
      have HX := Aside0.mk hx
      clear hx
      have hm : x ∈ xs := by
        rw [← HX.out]
        simp only [rd_T70, Int.toNat_natCast, List.getD_eq_getElem?_getD, List.getElem?_eq_getElem hlt, Option.getD_some]
        exact List.getElem_mem hlt
      have hd : xs.drop i = x :: xs.drop (i + 1) := by
        rw [← HX.out, List.drop_eq_getElem_cons hlt]
        simp [rd_T70, List.getD_eq_getElem?_getD, List.getElem?_eq_getElem hlt]
      have HD := Aside0.mk hd
      have HM := Aside0.mk hm
      clear hd hm
      cases hpx : p x with
      | true =>
        have HPX := Aside0.mk hpx
        have hc := HP.out wr x HM.out HB.out
        rw [hpx] at hc
        clear hpx
        go_wp2_with (go_at_fn g; refine hc.mono ?_; rintro e w1 ⟨rfl, hb⟩; have HB1 := Aside0.mk (below_step HB.out hb); clear hb hc)
        go_ret
        exact ⟨by rw [HI.out, HD.out]; simp [idxP, HPX.out], HB1.out⟩
      | false =>
        have HPX := Aside0.mk hpx
        have hc := HP.out wr x HM.out HB.out
        rw [hpx] at hc
        clear hpx
        go_wp2_with (go_at_fn g; refine hc.mono ?_; rintro e w1 ⟨rfl, hb⟩; have HB1 := Aside0.mk (below_step HB.out hb); clear hb hc)
        go_roundw
        case measure => simp [intOf]; omega
        case rel => exact ⟨i + 1, by go_num, by omega, ⟨by rw [HI.out, HD.out]; simp [idxP, HPX.out]⟩, HB1⟩
    · have hlb : decide ((i : Int) < (xs.length : Int)) = false := decide_eq_false (by omega)
      have hge : ¬ i < xs.length := hlt
      go_wp2
      go_ret
      have he : i = xs.length := by omega
      subst he
      exact ⟨by rw [HI.out]; simp [idxP], HB.out⟩
set_option maxHeartbeats 8000000 in
theorem place_closure (W : World) (x : S70) (B : Nat) (id : Int) (hc : W.cell? ⟨B, 0, none⟩ = some (.int .i64 id)) :
    Calls Try.prog 138 #[podV x, .pointer (some ⟨B, 0, none⟩)] W fun e w' => e = .returned (.bool (x.f0 == id)) ∧ Below W.heap.size W w' := by
  have hlt : B < W.heap.size := World.block_lt_of_cell? W _ hc
  have hne : B ≠ W.heap.size := by omega
  unfold podV
  go_enter Try.func138, Try.ntmps138
  go_wp2
  repeat (go_quiet (fail); try go_wp2)
  go_ret
  refine ⟨rfl, ?_⟩
  repeat (first | (with_reducible first | apply below_alloc | apply pw_below_drewN | apply below_drew1 | exact Below.refl _ _))
def state_place.f (l0_0 : List S70) (a0_1 : Int) (a0_2 : Int) (a1 : Int) : Option Int := some (idxP (fun x => x.f0 == a1) l0_0 0)
theorem state_place.calls (A0_0 : Option Addr) (c0_0 : Nat) (l0_0 : List (S70)) (a0_1 : Int) (a0_2 : Int) (a1 : Int) (r : Int) (w : World) (hr0_0 : Kd.C k70 w A0_0 l0_0.length l0_0) (hc0_0 : l0_0.length ≤ c0_0) (h : state_place.f l0_0 a0_1 a0_2 a1 = some r) :
    Calls Try.prog 121 #[.agg #[.slice A0_0 l0_0.length c0_0, .int .i64 a0_1, .int .i64 a0_2], .int .i64 a1] w fun e w' => e = .returned (.int .i64 r) ∧ Below w.heap.size w w' := by
  obtain rfl := Option.some.inj h
  clear h
  have HR := Aside0.mk hr0_0
  clear hr0_0 hc0_0
  go_enter Try.func121, Try.ntmps121
  go_wp2_with fail
  refine (indexFunc_pod 138 #[.pointer (some ⟨w.heap.size + 1, 0, none⟩)] (fun x => x.f0 == a1) (enters_of Try.func138 (by kernel_rfl) rfl) l0_0 A0_0 c0_0 _ ?hc ?hp).mono ?_
  case hc => repeat (first | exact HR.out | (with_reducible refine Kd.C_alloc ?_ _))
  case hp =>
    intro W x hx hb
    refine place_closure W x _ a1 ?_
    have hc : ((w.alloc (Obj.cells #[Value.slice A0_0 l0_0.length c0_0, Value.int IntKind.i64 a0_1, Value.int IntKind.i64 a0_2] 26)).alloc (Obj.cells #[Value.int IntKind.i64 a1] 3)).cell? ⟨w.heap.size + 1, 0, none⟩ = some (.int .i64 a1) := by
      simp
    exact pw_cell_below hb hc
  rintro e w1 ⟨rfl, hb⟩
  have HB1 := Aside0.mk (below_step (below_alloc (below_alloc (Below.refl _ _) _) _) hb)
  clear hb
  go_wp2
  go_ret
  exact ⟨rfl, HB1.out⟩

end Go.Proofs.Ytppfkbigeknedaa.Q
