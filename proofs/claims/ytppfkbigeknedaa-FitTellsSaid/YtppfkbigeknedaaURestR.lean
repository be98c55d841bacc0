/- room.Rest, by hand: each call is met once. -/
import Derived.Test.YtppfkbigeknedaaURest6
import Derived.Test.YtppfkbigeknedaaUQclusterNode
import Derived.Test.YtppfkbigeknedaaUQroomUse
import Derived.Test.YtppfkbigeknedaaUQvecSub
namespace Go.Proofs.Ytppfkbigeknedaa.Q
open Go.Shelf Go.RowKit Go.Lib Go.Proofs.YtppfkbigeknedaaW.PrintWords Go.Proofs.YtppfkbigeknedaaW.PrintLast Go.Proofs.YtppfkbigeknedaaW.PrintMore
set_option linter.unusedVariables false
set_option linter.unusedSimpArgs false
set_option maxRecDepth 100000
attribute [local go_sem] eqe_ii eqe_nn eqe_ni eqe_nni
def Node10 (W : World) (g : Nat) (n3 n4 n5 n6 n7 n8 n9 n10 : Int) : Prop := W.cell? ⟨g, 2, none⟩ = some (.int .u64 n3) ∧ W.cell? ⟨g, 3, none⟩ = some (.int .u64 n4) ∧ W.cell? ⟨g, 4, none⟩ = some (.int .u64 n5) ∧ W.cell? ⟨g, 5, none⟩ = some (.int .u64 n6) ∧ W.cell? ⟨g, 6, none⟩ = some (.int .u64 n7) ∧ W.cell? ⟨g, 7, none⟩ = some (.int .u64 n8) ∧ W.cell? ⟨g, 8, none⟩ = some (.int .u64 n9) ∧ W.cell? ⟨g, 9, none⟩ = some (.int .u64 n10)
theorem node10 (w : World) (n1 n2 n3 n4 n5 n6 n7 n8 n9 n10 : Int) : Node10 (w.alloc (.cells #[.int .i64 n1, .int .i64 n2, .int .u64 n3, .int .u64 n4, .int .u64 n5, .int .u64 n6, .int .u64 n7, .int .u64 n8, .int .u64 n9, .int .u64 n10] 150)) w.heap.size n3 n4 n5 n6 n7 n8 n9 n10 := by
  refine ⟨?_, ?_, ?_, ?_, ?_, ?_, ?_, ?_⟩ <;> simp [go_sem]
theorem Node10.block {W W1 : World} {g : Nat} {n3 n4 n5 n6 n7 n8 n9 n10 : Int} (h : Node10 W g n3 n4 n5 n6 n7 n8 n9 n10) (hb : W1.heap[g]? = W.heap[g]?) : Node10 W1 g n3 n4 n5 n6 n7 n8 n9 n10 := by
  have c : ∀ j, W1.cell? ⟨g, j, none⟩ = W.cell? ⟨g, j, none⟩ := fun j => World.cell?_of_block (w := W) hb
  unfold Node10
  rw [c, c, c, c, c, c, c, c]
  exact h
def restRF (k : Nat) (l0_0 : List (S150)) (l0_1 : List (S260)) (l0_2 : List (S70)) (l1_0 : List (S70)) (a1_1 : Int) (a1_2 : Int) (a2 : Int) : Option (Int × Int × Int × Int × Option Int) := (cluster_Node.f k l0_0 l0_1 l0_2 a2).bind fun bt104 => (if bt104.2.2.2.2.2.2.2.2.2.2 = true then ((room_Use.f k l1_0 a1_1 a1_2 a2).bind fun bt116 => (if bt116.2.2.2.2.isNone = true then ((vec_Sub.f bt104.2.2.1 bt104.2.2.2.1 bt104.2.2.2.2.1 bt104.2.2.2.2.2.1 bt104.2.2.2.2.2.2.1 bt104.2.2.2.2.2.2.2.1 bt104.2.2.2.2.2.2.2.2.1 bt104.2.2.2.2.2.2.2.2.2.1).bind fun bt123 => (if bt123.2.2.2.2.isNone = true then ((vec_Sub.f bt123.1 bt123.2.1 bt123.2.2.1 bt123.2.2.2.1 bt116.1 bt116.2.1 bt116.2.2.1 bt116.2.2.2.1).bind fun bt130 => (if bt130.2.2.2.2.isNone = true then (some (bt130.1, bt130.2.1, bt130.2.2.1, bt130.2.2.2.1, none)) else (some (0, 0, 0, 0, some 9)))) else (some (0, 0, 0, 0, some 9)))) else (some (0, 0, 0, 0, some (bt116.2.2.2.2.getD 0))))) else (some (0, 0, 0, 0, some 4)))
theorem restR_mono : ∀ a0 a1 a2 a3 a4 a5 a6 k, LeO (restRF k a0 a1 a2 a3 a4 a5 a6) (restRF (k + 1) a0 a1 a2 a3 a4 a5 a6) := by
  intro a0 a1 a2 a3 a4 a5 a6 k
  unfold restRF
  repeat' first
      | (with_reducible exact cluster_Node.mono _ _ _ _ _)
      | (with_reducible exact room_Use.mono _ _ _ _ _)
      | (with_reducible exact LeO.refl _)
      | (with_reducible exact LeO.none _)
      | (with_reducible refine LeO.ite ?_ ?_)
      | (with_reducible refine LeO.bind ?_ (fun _ => ?_))
      | exact cluster_Node.mono _ _ _ _ _
      | exact room_Use.mono _ _ _ _ _
      | exact LeO.none _
      | refine LeO.ite ?_ ?_
      | refine LeO.bind ?_ (fun _ => ?_)
set_option maxHeartbeats 2000000 in
theorem restR_calls (k : Nat) (A0_0 : Option Addr) (c0_0 : Nat) (l0_0 : List (S150)) (A0_1 : Option Addr) (c0_1 : Nat) (l0_1 : List (S260)) (A0_2 : Option Addr) (c0_2 : Nat) (l0_2 : List (S70)) (A1_0 : Option Addr) (c1_0 : Nat) (l1_0 : List (S70)) (a1_1 : Int) (a1_2 : Int) (a2 : Int) (r1 : Int) (r2 : Int) (r3 : Int) (r4 : Int) (r5 : Option Int) (w : World) (hr0_0 : Kd.C k150 w A0_0 l0_0.length l0_0) (hc0_0 : l0_0.length ≤ c0_0) (hr0_1 : Kd.C k260 w A0_1 l0_1.length l0_1) (hc0_1 : l0_1.length ≤ c0_1) (hr0_2 : Kd.C k70 w A0_2 l0_2.length l0_2) (hc0_2 : l0_2.length ≤ c0_2) (hr1_0 : Kd.C k70 w A1_0 l1_0.length l1_0) (hc1_0 : l1_0.length ≤ c1_0) (h : restRF k l0_0 l0_1 l0_2 l1_0 a1_1 a1_2 a2 = some (r1, r2, r3, r4, r5)) :
    Calls Try.prog 72 #[.agg #[.slice A0_0 l0_0.length c0_0, .slice A0_1 l0_1.length c0_1, .slice A0_2 l0_2.length c0_2], .agg #[.slice A1_0 l1_0.length c1_0, .int .i64 a1_1, .int .i64 a1_2], .int .i64 a2] w fun e w' => e = .returned (.tuple #[.agg #[.int .u64 r1, .int .u64 r2, .int .u64 r3, .int .u64 r4], errW r5]) ∧ Below w.heap.size w w' := by
  have HR00 := Aside0.mk hr0_0
  have HR01 := Aside0.mk hr0_1
  have HR02 := Aside0.mk hr0_2
  have HR10 := Aside0.mk hr1_0
  have HC00 := Aside0.mk hc0_0
  have HC01 := Aside0.mk hc0_1
  have HC02 := Aside0.mk hc0_2
  have HC10 := Aside0.mk hc1_0
  clear hr0_0 hr0_1 hr0_2 hr1_0 hc0_0 hc0_1 hc0_2 hc1_0
  unfold restRF at h
  have h' := Option.bind_eq_some_iff.1 h
  clear h
  obtain ⟨⟨n1, n2, n3, n4, n5, n6, n7, n8, n9, n10, ok⟩, A, h⟩ := h'
  have A1 := Aside0.mk A
  have H := Aside0.mk h
  clear h A
  go_enter Try.func72, Try.ntmps72
  go_wp2_with fail
  have HX0 := Aside0.mk (boxes3_bx w (.slice A0_0 l0_0.length c0_0) (.slice A0_1 l0_1.length c0_1) (.slice A0_2 l0_2.length c0_2) (.slice A1_0 l1_0.length c1_0) (.int .i64 a1_1) (.int .i64 a1_2))
  change Calls Try.prog 105 _ (boxes3 w (.slice A0_0 l0_0.length c0_0) (.slice A0_1 l0_1.length c0_1) (.slice A0_2 l0_2.length c0_2) (.slice A1_0 l1_0.length c1_0) (.int .i64 a1_1) (.int .i64 a1_2)) _
  generalize boxes3 w (.slice A0_0 l0_0.length c0_0) (.slice A0_1 l0_1.length c0_1) (.slice A0_2 l0_2.length c0_2) (.slice A1_0 l1_0.length c1_0) (.int .i64 a1_1) (.int .i64 a1_2) = W0 at HX0 ⊢
  refine (cluster_Node.calls k _ _ l0_0 _ _ l0_1 _ _ l0_2 a2 n1 n2 n3 n4 n5 n6 n7 n8 n9 n10 ok W0 (Kd.C_below HR00.out HX0.out.2) HC00.out (Kd.C_below HR01.out HX0.out.2) HC01.out (Kd.C_below HR02.out HX0.out.2) HC02.out A1.out).mono ?_
  rintro e w1 ⟨rfl, hb⟩
  have HX := Aside0.mk ((HX0.out.1.below hb).below (below_alloc (Below.refl _ _) (.cells #[.int .i64 n1, .int .i64 n2, .int .u64 n3, .int .u64 n4, .int .u64 n5, .int .u64 n6, .int .u64 n7, .int .u64 n8, .int .u64 n9, .int .u64 n10] 150)))
  have HB := Aside0.mk (below_step HX0.out.2 hb)
  clear hb HX0 A1
  obtain ⟨-, -, ⟨h3, h4, h5⟩, ⟨z0, z1, z2, z3⟩, f0, f1, f2, f3⟩ := HX.out
  by_cases c1 : ok = true
  case neg =>
    replace c1 := Bool.eq_false_iff.mpr c1
    subst c1
    have h := H.out
    rw [if_neg (by simp)] at h
    simp only [Option.some.injEq, Prod.mk.injEq] at h
    obtain ⟨rfl, rfl, rfl, rfl, rfl⟩ := h
    go_wp2
    refine bodyPost_ret (v := .tuple #[.agg #[.int .u64 0, .int .u64 0, .int .u64 0, .int .u64 0], errW (some 4)]) (by simp [results, Try.results72, go_sem, errW_some, *]) rfl ⟨rfl, ?_⟩
    repeat (first | (with_reducible exact HB.out) | (refine below_set ?_ (by show w.heap.size ≤ _; omega)) | apply below_drew1 | apply pw_below_drewN | apply below_alloc)
  subst c1
  have h := H.out
  rw [if_pos rfl] at h
  have h' := Option.bind_eq_some_iff.1 h
  clear h H
  obtain ⟨⟨t1, t2, t3, t4, t5⟩, A, h⟩ := h'
  have A2 := Aside0.mk A
  have H := Aside0.mk h
  clear h A
  go_wp2_with fail
  have HN := Aside0.mk (node10 w1 n1 n2 n3 n4 n5 n6 n7 n8 n9 n10)
  have HB1 := Aside0.mk (below_alloc HB.out (.cells #[.int .i64 n1, .int .i64 n2, .int .u64 n3, .int .u64 n4, .int .u64 n5, .int .u64 n6, .int .u64 n7, .int .u64 n8, .int .u64 n9, .int .u64 n10] 150))
  have hz : (w1.alloc (.cells #[.int .i64 n1, .int .i64 n2, .int .u64 n3, .int .u64 n4, .int .u64 n5, .int .u64 n6, .int .u64 n7, .int .u64 n8, .int .u64 n9, .int .u64 n10] 150)).heap.size = w1.heap.size + 1 := by simp
  have HZ := Aside0.mk hz
  clear hz HB h3 h4 h5 z0 z1 z2 z3 f0 f1 f2 f3
  generalize w1.alloc (.cells #[.int .i64 n1, .int .i64 n2, .int .u64 n3, .int .u64 n4, .int .u64 n5, .int .u64 n6, .int .u64 n7, .int .u64 n8, .int .u64 n9, .int .u64 n10] 150) = W1 at HN HB1 HZ HX ⊢
  generalize w1.heap.size = gn at HN HZ ⊢
  refine (room_Use.calls k _ _ l1_0 a1_1 a1_2 a2 t1 t2 t3 t4 t5 W1 (Kd.C_below HR10.out HB1.out) HC10.out A2.out).mono ?_
  rintro e w2 ⟨rfl, hb⟩
  have hb2 : Below W1.heap.size W1 (w2.alloc (.cells #[.int .u64 t1, .int .u64 t2, .int .u64 t3, .int .u64 t4] 33)) := below_alloc hb _
  have HX2 := Aside0.mk (HX.out.below hb2)
  have HN2 := Aside0.mk (HN.out.block (hb2.block _ (by have := HZ.out; omega)))
  have HB2 := Aside0.mk (below_step HB1.out hb)
  have HU2 := Aside0.mk (vec4 w2 t1 t2 t3 t4)
  have HS2 := Aside0.mk (show gn + 1 ≤ w2.heap.size by have := hb.size; have := HZ.out; omega)
  clear hb hb2 HX HN HB1 HZ A2
  obtain ⟨-, -, -, ⟨z0, z1, z2, z3⟩, f0, f1, f2, f3⟩ := HX2.out
  cases t5 with
  | some c =>
    have h := H.out
    rw [if_neg (by simp)] at h
    rw [errW_some]
    simp only [Option.some.injEq, Prod.mk.injEq] at h
    obtain ⟨rfl, rfl, rfl, rfl, rfl⟩ := h
    go_wp2
    refine bodyPost_ret (v := .tuple #[.agg #[.int .u64 0, .int .u64 0, .int .u64 0, .int .u64 0], errW (some c)]) (by simp [results, Try.results72, go_sem, errW_some, *]) rfl ⟨rfl, ?_⟩
    repeat (first | (with_reducible exact HB2.out) | (refine below_set ?_ (by show w.heap.size ≤ _; omega)) | apply below_drew1 | apply pw_below_drewN | apply below_alloc)
  | none =>
    have h := H.out
    rw [if_pos (by rfl)] at h
    have h' := Option.bind_eq_some_iff.1 h
    clear h H
    obtain ⟨⟨s1, s2, s3, s4, s5⟩, A, h⟩ := h'
    have A3 := Aside0.mk A
    have H := Aside0.mk h
    clear h A
    rw [errW_none]
    obtain ⟨m3, m4, m5, m6, m7, m8, m9, m10⟩ := HN2.out
    go_wp2_with fail
    have HX3 := HX2
    have HB3 := Aside0.mk (below_alloc HB2.out (.cells #[.int .u64 t1, .int .u64 t2, .int .u64 t3, .int .u64 t4] 33))
    have hz : (w2.alloc (.cells #[.int .u64 t1, .int .u64 t2, .int .u64 t3, .int .u64 t4] 33)).heap.size = w2.heap.size + 1 := by simp
    have HZ3 := Aside0.mk hz
    clear hz m3 m4 m5 m6 m7 m8 m9 m10 z0 z1 z2 z3 f0 f1 f2 f3 HX2 HN2 HB2
    generalize w2.alloc (.cells #[.int .u64 t1, .int .u64 t2, .int .u64 t3, .int .u64 t4] 33) = W3 at HX3 HB3 HZ3 HU2 ⊢
    generalize w2.heap.size = gu at HU2 HZ3 HS2 ⊢
    refine (vec_Sub.calls n3 n4 n5 n6 n7 n8 n9 n10 s1 s2 s3 s4 s5 W3 A3.out).mono ?_
    rintro e w4 ⟨rfl, hb⟩
    have hb4 : Below W3.heap.size W3 (w4.alloc (.cells #[.int .u64 s1, .int .u64 s2, .int .u64 s3, .int .u64 s4] 33)) := below_alloc hb _
    have HX4 := Aside0.mk (HX3.out.below hb4)
    have HU4 := Aside0.mk (HU2.out.block (hb4.block _ (by have := HZ3.out; omega)))
    have HB4 := Aside0.mk (below_step HB3.out hb)
    have HV4 := Aside0.mk (vec4 w4 s1 s2 s3 s4)
    have HS4 := Aside0.mk (show w.heap.size + 3 ≤ w4.heap.size by have h1 := HX3.out.1; have h2 := hb.size; exact Nat.le_trans h1 h2)
    clear hb hb4 HX3 HU2 HB3 HZ3 A3 HS2
    obtain ⟨-, -, -, ⟨z0, z1, z2, z3⟩, f0, f1, f2, f3⟩ := HX4.out
    cases s5 with
    | some c =>
      have h := H.out
      rw [if_neg (by simp)] at h
      rw [errW_some]
      simp only [Option.some.injEq, Prod.mk.injEq] at h
      obtain ⟨rfl, rfl, rfl, rfl, rfl⟩ := h
      go_wp2
      refine bodyPost_ret (v := .tuple #[.agg #[.int .u64 0, .int .u64 0, .int .u64 0, .int .u64 0], errW (some 9)]) (by simp [results, Try.results72, go_sem, errW_some, *]) rfl ⟨rfl, ?_⟩
      repeat (first | (with_reducible exact HB4.out) | (refine below_set ?_ (by show w.heap.size ≤ _; omega)) | apply below_drew1 | apply pw_below_drewN | apply below_alloc)
    | none =>
      have h := H.out
      rw [if_pos (by rfl)] at h
      have h' := Option.bind_eq_some_iff.1 h
      clear h H
      obtain ⟨⟨q1, q2, q3, q4, q5⟩, A, h⟩ := h'
      have A4 := Aside0.mk A
      have H := Aside0.mk h
      clear h A
      rw [errW_none]
      obtain ⟨⟨u0, u1, u2, u3⟩, -⟩ := HU4.out
      go_wp2_with fail
      have HB5 := Aside0.mk (below_alloc HB4.out (.cells #[.int .u64 s1, .int .u64 s2, .int .u64 s3, .int .u64 s4] 33))
      have hz : (w4.alloc (.cells #[.int .u64 s1, .int .u64 s2, .int .u64 s3, .int .u64 s4] 33)).heap.size = w4.heap.size + 1 := by simp
      have HZ5 := Aside0.mk hz
      clear hz u0 u1 u2 u3 z0 z1 z2 z3 f0 f1 f2 f3 HU4 HB4
      generalize w4.alloc (.cells #[.int .u64 s1, .int .u64 s2, .int .u64 s3, .int .u64 s4] 33) = W5 at HX4 HB5 HZ5 HV4 ⊢
      have hgv : w.heap.size + 3 ≤ w4.heap.size := HS4.out
      generalize w4.heap.size = gv at HV4 HZ5 hgv ⊢
      refine (vec_Sub.calls s1 s2 s3 s4 t1 t2 t3 t4 q1 q2 q3 q4 q5 W5 A4.out).mono ?_
      rintro e w6 ⟨rfl, hb⟩
      have HX6 := Aside0.mk (HX4.out.below hb)
      have HB6 := Aside0.mk (below_step HB5.out hb)
      have HV6 := Aside0.mk (HV4.out.block (hb.block _ (by have := HZ5.out; omega)))
      clear hb HX4 HB5 HV4 A4 HS4
      obtain ⟨-, -, -, ⟨z0, z1, z2, z3⟩, f0, f1, f2, f3⟩ := HX6.out
      obtain ⟨⟨v0, v1, v2, v3⟩, y0, y1, y2, y3⟩ := HV6.out
      have hne : w.heap.size + 1 + 1 ≠ gv := by omega
      have hne' : gv ≠ w.heap.size + 1 + 1 := by omega
      cases q5 with
      | some c =>
        have h := H.out
        rw [if_neg (by simp)] at h
        rw [errW_some]
        simp only [Option.some.injEq, Prod.mk.injEq] at h
        obtain ⟨rfl, rfl, rfl, rfl, rfl⟩ := h
        go_wp2
        refine bodyPost_ret (v := .tuple #[.agg #[.int .u64 0, .int .u64 0, .int .u64 0, .int .u64 0], errW (some 9)]) (by simp [results, Try.results72, go_sem, errW_some, errW_none, *]) rfl ⟨rfl, ?_⟩
        repeat (first | (with_reducible exact HB6.out) | (refine below_set ?_ (by show w.heap.size ≤ _; omega)) | apply below_drew1 | apply pw_below_drewN | apply below_alloc)
      | none =>
        have h := H.out
        rw [if_pos (by rfl)] at h
        rw [errW_none]
        simp only [Option.some.injEq, Prod.mk.injEq] at h
        obtain ⟨rfl, rfl, rfl, rfl, rfl⟩ := h
        go_wp2
        refine bodyPost_ret (v := .tuple #[.agg #[.int .u64 q1, .int .u64 q2, .int .u64 q3, .int .u64 q4], errW (none)]) (by simp [results, Try.results72, go_sem, errW_some, errW_none, *]) rfl ⟨rfl, ?_⟩
        repeat (first | (with_reducible exact HB6.out) | (refine below_set ?_ (by show w.heap.size ≤ _; omega)) | apply below_drew1 | apply pw_below_drewN | apply below_alloc)
end Go.Proofs.Ytppfkbigeknedaa.Q
