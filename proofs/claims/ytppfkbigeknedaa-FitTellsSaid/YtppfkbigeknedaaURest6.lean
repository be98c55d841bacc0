/- dunnageref06.Rest, by hand: each call is met once. -/
import Derived.Test.YtppfkbigeknedaaUDown
import Derived.Test.YtppfkbigeknedaaUQdunnageref01Sub
import Derived.Test.YtppfkbigeknedaaUQdunnageref03Node
import Derived.Test.YtppfkbigeknedaaUQdunnageref06Use
import Derived.Deep.RegionHeld3
namespace Go.Proofs.Ytppfkbigeknedaa.Q
open Go.Shelf Go.RowKit Go.Lib Go.Proofs.YtppfkbigeknedaaW.PrintWords Go.Proofs.YtppfkbigeknedaaW.PrintLast Go.Proofs.YtppfkbigeknedaaW.PrintMore
set_option linter.unusedVariables false
set_option linter.unusedSimpArgs false
set_option maxRecDepth 100000
attribute [local go_sem] eqe_ii eqe_nn eqe_ni eqe_nni
theorem vec4_set {W : World} {g : Nat} {a b c d : Int} (h : Vec4 W g a b c d) (r1 r2 r3 r4 : Int) : Vec4 ((((W.setCell ⟨g, 0, none⟩ (.int .u64 r1)).setCell ⟨g, 1, none⟩ (.int .u64 r2)).setCell ⟨g, 2, none⟩ (.int .u64 r3)).setCell ⟨g, 3, none⟩ (.int .u64 r4)) g r1 r2 r3 r4 := by
  obtain ⟨⟨h0, h1, h2, h3⟩, f0, f1, f2, f3⟩ := h
  refine ⟨⟨?_, ?_, ?_, ?_⟩, ?_, ?_, ?_, ?_⟩ <;> simp [go_sem, h0, h1, h2, h3, f0, f1, f2, f3]
def Bx (W : World) (b : Nat) (v0 v1 v2 v3 v4 v5 : Value) : Prop := b + 3 ≤ W.heap.size ∧
  (W.cell? ⟨b, 0, none⟩ = some v0 ∧ W.cell? ⟨b, 1, none⟩ = some v1 ∧ W.cell? ⟨b, 2, none⟩ = some v2) ∧ (W.cell? ⟨b + 1, 0, none⟩ = some v3 ∧ W.cell? ⟨b + 1, 1, none⟩ = some v4 ∧ W.cell? ⟨b + 1, 2, none⟩ = some v5) ∧ Vec4 W (b + 1 + 1) 0 0 0 0
theorem Bx.below {W W1 : World} {b : Nat} {v0 v1 v2 v3 v4 v5 : Value} (h : Bx W b v0 v1 v2 v3 v4 v5) (hb : Below W.heap.size W W1) : Bx W1 b v0 v1 v2 v3 v4 v5 := by
  obtain ⟨h0, ⟨a0, a1, a2⟩, ⟨a3, a4, a5⟩, hv⟩ := h
  have e : ∀ o, W1.cell? ⟨b, o, none⟩ = W.cell? ⟨b, o, none⟩ := fun o => hb.cell (p := ⟨b, o, none⟩) (by show b < _; omega)
  have e' : ∀ o, W1.cell? ⟨b + 1, o, none⟩ = W.cell? ⟨b + 1, o, none⟩ := fun o => hb.cell (p := ⟨b + 1, o, none⟩) (by show b + 1 < _; omega)
  exact ⟨Nat.le_trans h0 hb.size, ⟨(e _).trans a0, (e _).trans a1, (e _).trans a2⟩, ⟨(e' _).trans a3, (e' _).trans a4, (e' _).trans a5⟩, hv.block (hb.block _ (by omega))⟩
def boxes3 (w : World) (v0 v1 v2 v3 v4 v5 : Value) : World := ((w.alloc (.cells #[v0, v1, v2] 96)).alloc (.cells #[v3, v4, v5] 26)).alloc (.cells #[.int .u64 0, .int .u64 0, .int .u64 0, .int .u64 0] 33)
theorem boxes3_bx (w : World) (v0 v1 v2 v3 v4 v5 : Value) : Bx (boxes3 w v0 v1 v2 v3 v4 v5) w.heap.size v0 v1 v2 v3 v4 v5 ∧ Below w.heap.size w (boxes3 w v0 v1 v2 v3 v4 v5) := by
  refine ⟨⟨by simp [boxes3], ⟨?_, ?_, ?_⟩, ⟨?_, ?_, ?_⟩, ⟨?_, ?_, ?_, ?_⟩, ?_, ?_, ?_, ?_⟩, below_alloc (below_alloc (below_alloc (Below.refl _ _) _) _) _⟩ <;> simp [go_sem, boxes3]
def rest6F (k : Nat) (l0_0 : List (S150)) (l0_1 : List (S260)) (l0_2 : List (S70)) (l1_0 : List (S70)) (a1_1 : Int) (a1_2 : Int) (a2 : Int) : Option (Int × Int × Int × Int × Int) := (dunnageref03_Node.f k l0_0 l0_1 l0_2 a2).bind fun t104 => (if t104 < 0 then (some (0, 0, 0, 0, 4)) else ((dunnageref06_Use.f k l1_0 a1_1 a1_2 a2).bind fun bt105 => (if bt105.2.2.2.2 = true then (if 0 ≤ t104 then (if t104 < (l0_0.length : Int) then ((dunnageref01_Sub.f ((rd_T150 l0_0 t104).f2.f0) ((rd_T150 l0_0 t104).f2.f1) ((rd_T150 l0_0 t104).f2.f2) ((rd_T150 l0_0 t104).f2.f3) ((rd_T150 l0_0 t104).f3.f0) ((rd_T150 l0_0 t104).f3.f1) ((rd_T150 l0_0 t104).f3.f2) ((rd_T150 l0_0 t104).f3.f3)).bind fun bt113 => (if bt113.2.2.2.2 = true then ((dunnageref01_Sub.f bt113.1 bt113.2.1 bt113.2.2.1 bt113.2.2.2.1 bt105.1 bt105.2.1 bt105.2.2.1 bt105.2.2.2.1).bind fun bt119 => (if bt119.2.2.2.2 = true then (some (bt119.1, bt119.2.1, bt119.2.2.1, bt119.2.2.2.1, 0)) else (some (0, 0, 0, 0, 9)))) else (some (0, 0, 0, 0, 9)))) else (none)) else (none)) else (some (0, 0, 0, 0, 8)))))

set_option maxHeartbeats 2000000 in
theorem rest6_calls (k : Nat) (A0_0 : Option Addr) (c0_0 : Nat) (l0_0 : List (S150)) (A0_1 : Option Addr) (c0_1 : Nat) (l0_1 : List (S260)) (A0_2 : Option Addr) (c0_2 : Nat) (l0_2 : List (S70)) (A1_0 : Option Addr) (c1_0 : Nat) (l1_0 : List (S70)) (a1_1 : Int) (a1_2 : Int) (a2 : Int) (r1 : Int) (r2 : Int) (r3 : Int) (r4 : Int) (r5 : Int) (w : World) (hr0_0 : Kd.C k150 w A0_0 l0_0.length l0_0) (hc0_0 : l0_0.length ≤ c0_0) (hr0_1 : Kd.C k260 w A0_1 l0_1.length l0_1) (hc0_1 : l0_1.length ≤ c0_1) (hr0_2 : Kd.C k70 w A0_2 l0_2.length l0_2) (hc0_2 : l0_2.length ≤ c0_2) (hr1_0 : Kd.C k70 w A1_0 l1_0.length l1_0) (hc1_0 : l1_0.length ≤ c1_0) (h : rest6F k l0_0 l0_1 l0_2 l1_0 a1_1 a1_2 a2 = some (r1, r2, r3, r4, r5)) :
    Calls Try.prog 134 #[.agg #[.slice A0_0 l0_0.length c0_0, .slice A0_1 l0_1.length c0_1, .slice A0_2 l0_2.length c0_2], .agg #[.slice A1_0 l1_0.length c1_0, .int .i64 a1_1, .int .i64 a1_2], .int .i64 a2] w fun e w' => e = .returned (.tuple #[.agg #[.int .u64 r1, .int .u64 r2, .int .u64 r3, .int .u64 r4], .int .i64 r5]) ∧ Below w.heap.size w w' := by
  have HR00 := Aside0.mk hr0_0
  have HR01 := Aside0.mk hr0_1
  have HR02 := Aside0.mk hr0_2
  have HR10 := Aside0.mk hr1_0
  have HC00 := Aside0.mk hc0_0
  have HC01 := Aside0.mk hc0_1
  have HC02 := Aside0.mk hc0_2
  have HC10 := Aside0.mk hc1_0
  clear hr0_0 hr0_1 hr0_2 hr1_0 hc0_0 hc0_1 hc0_2 hc1_0
  unfold rest6F at h
  have h' := Option.bind_eq_some_iff.1 h
  clear h
  obtain ⟨t104, A1, h⟩ := h'
  have A1' := Aside0.mk A1
  clear A1
  have A1 := A1'
  clear A1'
  have H := Aside0.mk h
  clear h
  go_enter Try.func134, Try.ntmps134
  go_wp2_with fail
  have HX0 := Aside0.mk (boxes3_bx w (.slice A0_0 l0_0.length c0_0) (.slice A0_1 l0_1.length c0_1) (.slice A0_2 l0_2.length c0_2) (.slice A1_0 l1_0.length c1_0) (.int .i64 a1_1) (.int .i64 a1_2))
  change Calls Try.prog 150 _ (boxes3 w (.slice A0_0 l0_0.length c0_0) (.slice A0_1 l0_1.length c0_1) (.slice A0_2 l0_2.length c0_2) (.slice A1_0 l1_0.length c1_0) (.int .i64 a1_1) (.int .i64 a1_2)) _
  generalize boxes3 w (.slice A0_0 l0_0.length c0_0) (.slice A0_1 l0_1.length c0_1) (.slice A0_2 l0_2.length c0_2) (.slice A1_0 l1_0.length c1_0) (.int .i64 a1_1) (.int .i64 a1_2) = W0 at HX0 ⊢
  refine (dunnageref03_Node.calls k _ _ l0_0 _ _ l0_1 _ _ l0_2 a2 t104 W0 (Kd.C_below HR00.out HX0.out.2) HC00.out (Kd.C_below HR01.out HX0.out.2) HC01.out (Kd.C_below HR02.out HX0.out.2) HC02.out A1.out).mono ?_
  rintro e w1 ⟨rfl, hb⟩
  have HX := Aside0.mk (HX0.out.1.below hb)
  have HB := Aside0.mk (below_step HX0.out.2 hb)
  clear hb HX0 A1
  obtain ⟨-, -, ⟨h3, h4, h5⟩, ⟨z0, z1, z2, z3⟩, f0, f1, f2, f3⟩ := HX.out
  by_cases c1 : t104 < 0
  · have h := H.out
    rw [if_pos c1] at h
    simp only [Option.some.injEq, Prod.mk.injEq] at h
    obtain ⟨rfl, rfl, rfl, rfl, rfl⟩ := h
    go_wp2
    refine bodyPost_ret (v := .tuple #[.agg #[.int .u64 0, .int .u64 0, .int .u64 0, .int .u64 0], .int .i64 4]) (by simp [results, Try.results134, go_sem, *]) rfl ⟨rfl, ?_⟩
    repeat (first | exact HB.out | (refine below_set ?_ (by show w.heap.size ≤ _; omega)) | apply below_drew1 | apply pw_below_drewN)
  · have h := H.out
    rw [if_neg c1] at h
    have h' := Option.bind_eq_some_iff.1 h
    clear h
    obtain ⟨⟨t105, t106, t107, t108, t109⟩, A2, h⟩ := h'
    have A2' := Aside0.mk A2
    clear A2
    have A2 := A2'
    clear A2'
    have H := Aside0.mk h
    have c1' : 0 ≤ t104 := by omega
    clear h c1
    go_wp2_with fail
    refine (dunnageref06_Use.calls k _ _ l1_0 a1_1 a1_2 a2 t105 t106 t107 t108 t109 w1 (Kd.C_below HR10.out HB.out) HC10.out A2.out).mono ?_
    rintro e w2 ⟨rfl, hb⟩
    have HX2 := Aside0.mk (HX.out.below hb)
    have HB2 := Aside0.mk (below_step HB.out hb)
    clear hb HX HB A2 h3 h4 h5 z0 z1 z2 z3 f0 f1 f2 f3
    have hc := HX2.out.below (below_alloc (Below.refl _ _) (.cells #[.int .u64 t105, .int .u64 t106, .int .u64 t107, .int .u64 t108] 33))
    by_cases c2 : t109 = true
    case neg =>
      replace c2 := Bool.eq_false_iff.mpr c2
      subst c2
      have h := H.out
      rw [if_neg (by simp)] at h
      simp only [Option.some.injEq, Prod.mk.injEq] at h
      obtain ⟨rfl, rfl, rfl, rfl, rfl⟩ := h
      obtain ⟨-, -, -, ⟨z0, z1, z2, z3⟩, f0, f1, f2, f3⟩ := hc
      go_wp2
      refine bodyPost_ret (v := .tuple #[.agg #[.int .u64 0, .int .u64 0, .int .u64 0, .int .u64 0], .int .i64 8]) (by simp [results, Try.results134, go_sem, *]) rfl ⟨rfl, ?_⟩
      repeat (first | exact HB2.out | (refine below_set ?_ (by show w.heap.size ≤ _; omega)) | apply below_drew1 | apply pw_below_drewN | apply below_alloc)
    subst c2
    have h := H.out
    rw [if_pos rfl, if_pos c1'] at h
    by_cases c3 : t104 < (l0_0.length : Int)
    case neg => rw [if_neg c3] at h; cases h
    rw [if_pos c3] at h
    have h' := Option.bind_eq_some_iff.1 h
    clear h
    obtain ⟨⟨t113, t114, t115, t116, t117⟩, A3, h⟩ := h'
    have A3' := Aside0.mk A3
    clear A3
    have A3 := A3'
    clear A3'
    have H := Aside0.mk h
    clear h
    obtain ⟨ad, eA, n0, n1, n2, n3, n4, n5, n6, n7, n8, n9⟩ := at_T150 (Kd.C_below HR00.out HB2.out) t104 c1' c3
    subst eA
    go_wp2_with fail
    have HU3 := Aside0.mk (vec4 w2 t105 t106 t107 t108)
    have HX3 := Aside0.mk hc
    have HB3 := Aside0.mk (below_alloc HB2.out (.cells #[.int .u64 t105, .int .u64 t106, .int .u64 t107, .int .u64 t108] 33))
    have hz : (w2.alloc (.cells #[.int .u64 t105, .int .u64 t106, .int .u64 t107, .int .u64 t108] 33)).heap.size = w2.heap.size + 1 := by simp
    have HZ3 := Aside0.mk hz
    clear hc hz HX2 HB2 n0 n1 n2 n3 n4 n5 n6 n7 n8 n9
    generalize w2.alloc (.cells #[.int .u64 t105, .int .u64 t106, .int .u64 t107, .int .u64 t108] 33) = W3 at HU3 HX3 HB3 HZ3 ⊢
    generalize w2.heap.size = gu at HU3 HZ3 ⊢
    have hk1 : (0 : Int) ≤ t104 := c1'
    go_cut [11, 12] (fun v11 v12 wc => ∃ g, v11 = .pointer (some ⟨g, 0, none⟩) ∧ v12 = .bool t117 ∧ Aside0 (Vec4 wc g t113 t114 t115 t116) ∧ Aside0 (Bx wc w.heap.size (.slice (some ad) l0_0.length c0_0) (.slice A0_1 l0_1.length c0_1) (.slice A0_2 l0_2.length c0_2) (.slice A1_0 l1_0.length c1_0) (.int .i64 a1_1) (.int .i64 a1_2)) ∧ Aside0 (Vec4 wc gu t105 t106 t107 t108) ∧ Aside0 (Below w.heap.size w wc))
    case first =>
      have SK := Aside0.mk (fun W' (hb : Below W3.heap.size W3 W') => (by
        have hx := HX3.out.below hb
        obtain ⟨ad', e, m0, m1, m2, m3, m4, m5, m6, m7, m8, m9⟩ := at_T150 (Kd.C_below HR00.out (HB3.out.trans (hb.mono HB3.out.size))) t104 c1' c3
        obtain rfl := Option.some.inj e
        exact ⟨hx.2.1.1, m2, m3, m4, m5, m6, m7, m8, m9⟩ : W'.cell? ⟨w.heap.size, 0, none⟩ = some (.slice (some ad) l0_0.length c0_0) ∧ W'.cell? ⟨(ad.add (t104.toNat * 10)).block, (ad.add (t104.toNat * 10)).off + 2, none⟩ = some (.int .u64 (rd_T150 l0_0 t104).f2.f0) ∧ W'.cell? ⟨(ad.add (t104.toNat * 10)).block, (ad.add (t104.toNat * 10)).off + 3, none⟩ = some (.int .u64 (rd_T150 l0_0 t104).f2.f1) ∧ W'.cell? ⟨(ad.add (t104.toNat * 10)).block, (ad.add (t104.toNat * 10)).off + 4, none⟩ = some (.int .u64 (rd_T150 l0_0 t104).f2.f2) ∧ W'.cell? ⟨(ad.add (t104.toNat * 10)).block, (ad.add (t104.toNat * 10)).off + 5, none⟩ = some (.int .u64 (rd_T150 l0_0 t104).f2.f3) ∧ W'.cell? ⟨(ad.add (t104.toNat * 10)).block, (ad.add (t104.toNat * 10)).off + 6, none⟩ = some (.int .u64 (rd_T150 l0_0 t104).f3.f0) ∧ W'.cell? ⟨(ad.add (t104.toNat * 10)).block, (ad.add (t104.toNat * 10)).off + 7, none⟩ = some (.int .u64 (rd_T150 l0_0 t104).f3.f1) ∧ W'.cell? ⟨(ad.add (t104.toNat * 10)).block, (ad.add (t104.toNat * 10)).off + 8, none⟩ = some (.int .u64 (rd_T150 l0_0 t104).f3.f2) ∧ W'.cell? ⟨(ad.add (t104.toNat * 10)).block, (ad.add (t104.toNat * 10)).off + 9, none⟩ = some (.int .u64 (rd_T150 l0_0 t104).f3.f3)))
      have HB20 := Aside0.mk (below_drew1 (Below.refl W3.heap.size W3))
      have mixed : Try.prog.follows .mixedOrders = true := by kernel_rfl
      go_region_held3 (fun W' => W'.cell? ⟨w.heap.size, 0, none⟩ = some (.slice (some ad) l0_0.length c0_0) ∧ W'.cell? ⟨(ad.add (t104.toNat * 10)).block, (ad.add (t104.toNat * 10)).off + 2, none⟩ = some (.int .u64 (rd_T150 l0_0 t104).f2.f0) ∧ W'.cell? ⟨(ad.add (t104.toNat * 10)).block, (ad.add (t104.toNat * 10)).off + 3, none⟩ = some (.int .u64 (rd_T150 l0_0 t104).f2.f1) ∧ W'.cell? ⟨(ad.add (t104.toNat * 10)).block, (ad.add (t104.toNat * 10)).off + 4, none⟩ = some (.int .u64 (rd_T150 l0_0 t104).f2.f2) ∧ W'.cell? ⟨(ad.add (t104.toNat * 10)).block, (ad.add (t104.toNat * 10)).off + 5, none⟩ = some (.int .u64 (rd_T150 l0_0 t104).f2.f3) ∧ W'.cell? ⟨(ad.add (t104.toNat * 10)).block, (ad.add (t104.toNat * 10)).off + 6, none⟩ = some (.int .u64 (rd_T150 l0_0 t104).f3.f0) ∧ W'.cell? ⟨(ad.add (t104.toNat * 10)).block, (ad.add (t104.toNat * 10)).off + 7, none⟩ = some (.int .u64 (rd_T150 l0_0 t104).f3.f1) ∧ W'.cell? ⟨(ad.add (t104.toNat * 10)).block, (ad.add (t104.toNat * 10)).off + 8, none⟩ = some (.int .u64 (rd_T150 l0_0 t104).f3.f2) ∧ W'.cell? ⟨(ad.add (t104.toNat * 10)).block, (ad.add (t104.toNat * 10)).off + 9, none⟩ = some (.int .u64 (rd_T150 l0_0 t104).f3.f3))
        (exact SK.out _ (by repeat (first | (with_reducible first | exact HB31.out | exact HB20.out | apply below_alloc | apply pw_below_drewN | apply below_drew1 | refine Below.setCell ?_ (by first | exact HB31.out.size | exact Nat.le_refl _) _ | exact Below.refl _ _))))
        ((first
          | (go_at_call 30; refine (dunnageref01_Sub.calls ((rd_T150 l0_0 t104).f2.f0) ((rd_T150 l0_0 t104).f2.f1) ((rd_T150 l0_0 t104).f2.f2) ((rd_T150 l0_0 t104).f2.f3) ((rd_T150 l0_0 t104).f3.f0) ((rd_T150 l0_0 t104).f3.f1) ((rd_T150 l0_0 t104).f3.f2) ((rd_T150 l0_0 t104).f3.f3) t113 t114 t115 t116 t117 _ A3.out).mono ?_; rintro e w31 ⟨rfl, hb⟩; (first | (have HZ31 := Aside0.mk (show Vec4 w31 W3.heap.size 0 0 0 0 from (vec4 W3.drew 0 0 0 0).block (hb.block W3.heap.size (by simp)))) | (have HZ31 := Aside0.mk (show Vec4 w31 W3.heap.size 0 0 0 0 from (vec4 W3 0 0 0 0).block (hb.block W3.heap.size (by simp)))) | skip); have HB31 := Aside0.mk (show Below W3.heap.size W3 w31 from Below.trans (by repeat (first | (with_reducible first | exact HB31.out | exact HB20.out | apply below_alloc | apply pw_below_drewN | apply below_drew1 | exact Below.refl _ _))) (hb.mono (Below.size (by repeat (first | (with_reducible first | exact HB31.out | exact HB20.out | apply below_alloc | apply pw_below_drewN | apply below_drew1 | exact Below.refl _ _)))))); (first | obtain ⟨⟨z0, z1, z2, z3⟩, y0, y1, y2, y3⟩ := HZ31.out | obtain ⟨⟨z0, z1, z2, z3⟩, y0, y1, y2, y3⟩ := vec4 w31 0 0 0 0); clear hb)))
      all_goals
        try go_wp2
        go_meet
        case rel =>
          refine ⟨_, rfl, rfl, ⟨by first | (with_reducible exact vec4_set HZ31.out _ _ _ _) | (with_reducible exact vec4 w31 _ _ _ _) | (with_reducible exact vec4_set (vec4 w31 0 0 0 0) _ _ _ _)⟩, ?_⟩
          refine (fun (hf : Below W3.heap.size W3 _) => ⟨⟨HX3.out.below hf⟩, ⟨HU3.out.block (hf.block _ (by have := HZ3.out; omega))⟩, ⟨HB3.out.trans (hf.mono HB3.out.size)⟩⟩) ?_
          repeat (first | (with_reducible first | exact HB31.out | apply below_alloc | apply pw_below_drewN | apply below_drew1 | refine Below.setCell ?_ (by first | exact HB31.out.size | exact Nat.le_refl _) _))
    case rest =>
      obtain ⟨g, rfl, rfl, HV, HXc, HUc, HBc⟩ := hcut
      obtain ⟨-, -, -, ⟨z0, z1, z2, z3⟩, f0, f1, f2, f3⟩ := HXc.out
      obtain ⟨⟨u0, u1, u2, u3⟩, -⟩ := HUc.out
      obtain ⟨⟨v0, v1, v2, v3⟩, -⟩ := HV.out
      by_cases c4 : t117 = true
      case neg =>
        replace c4 := Bool.eq_false_iff.mpr c4
        subst c4
        have h := H.out
        rw [if_neg (by simp)] at h
        simp only [Option.some.injEq, Prod.mk.injEq] at h
        obtain ⟨rfl, rfl, rfl, rfl, rfl⟩ := h
        go_wp2
        refine bodyPost_ret (v := .tuple #[.agg #[.int .u64 0, .int .u64 0, .int .u64 0, .int .u64 0], .int .i64 9]) (by simp [results, Try.results134, go_sem, *]) rfl ⟨rfl, ?_⟩
        repeat (first | exact HBc.out | (refine below_set ?_ (by show w.heap.size ≤ _; omega)) | apply below_drew1 | apply pw_below_drewN | apply below_alloc)
      subst c4
      have h := H.out
      rw [if_pos rfl] at h
      have h' := Option.bind_eq_some_iff.1 h
      clear h
      obtain ⟨⟨t119, t120, t121, t122, t123⟩, A4, h⟩ := h'
      have A4' := Aside0.mk A4
      clear A4
      have A4 := A4'
      clear A4'
      have H := Aside0.mk h
      clear h
      go_wp2_with fail
      refine (dunnageref01_Sub.calls t113 t114 t115 t116 t105 t106 t107 t108 t119 t120 t121 t122 t123 wc A4.out).mono ?_
      rintro e w5 ⟨rfl, hb⟩
      have HX5 := Aside0.mk ((HXc.out.below hb).below (below_alloc (Below.refl _ _) (.cells #[.int .u64 t119, .int .u64 t120, .int .u64 t121, .int .u64 t122] 33)))
      have HB5 := Aside0.mk (below_step HBc.out hb)
      have HR5 := Aside0.mk (vec4 w5 t119 t120 t121 t122)
      clear hb HXc HUc HBc HV z0 z1 z2 z3 f0 f1 f2 f3 u0 u1 u2 u3 v0 v1 v2 v3 A4
      obtain ⟨-, -, -, ⟨z0, z1, z2, z3⟩, f0, f1, f2, f3⟩ := HX5.out
      obtain ⟨⟨v0, v1, v2, v3⟩, -⟩ := HR5.out
      by_cases c5 : t123 = true
      case neg =>
        replace c5 := Bool.eq_false_iff.mpr c5
        subst c5
        have h := H.out
        rw [if_neg (by simp)] at h
        simp only [Option.some.injEq, Prod.mk.injEq] at h
        obtain ⟨rfl, rfl, rfl, rfl, rfl⟩ := h
        go_wp2
        refine bodyPost_ret (v := .tuple #[.agg #[.int .u64 0, .int .u64 0, .int .u64 0, .int .u64 0], .int .i64 9]) (by simp [results, Try.results134, go_sem, *]) rfl ⟨rfl, ?_⟩
        repeat (first | exact HB5.out | (refine below_set ?_ (by show w.heap.size ≤ _; omega)) | apply below_drew1 | apply pw_below_drewN | apply below_alloc)
      subst c5
      have h := H.out
      rw [if_pos rfl] at h
      simp only [Option.some.injEq, Prod.mk.injEq] at h
      obtain ⟨rfl, rfl, rfl, rfl, rfl⟩ := h
      go_wp2
      refine bodyPost_ret (v := .tuple #[.agg #[.int .u64 t119, .int .u64 t120, .int .u64 t121, .int .u64 t122], .int .i64 0]) (by simp [results, Try.results134, go_sem, *]) rfl ⟨rfl, ?_⟩
      repeat (first | exact HB5.out | (refine below_set ?_ (by show w.heap.size ≤ _; omega)) | apply below_drew1 | apply pw_below_drewN | apply below_alloc)
theorem rest6_mono : ∀ a0 a1 a2 a3 a4 a5 a6 k, LeO (rest6F k a0 a1 a2 a3 a4 a5 a6) (rest6F (k + 1) a0 a1 a2 a3 a4 a5 a6) := by
  intro a0 a1 a2 a3 a4 a5 a6 k
  unfold rest6F
  repeat' first
      | (with_reducible exact dunnageref03_Node.mono _ _ _ _ _)
      | (with_reducible exact dunnageref06_Use.mono _ _ _ _ _)
      | (with_reducible exact LeO.refl _)
      | (with_reducible exact LeO.none _)
      | (with_reducible refine LeO.ite ?_ ?_)
      | (with_reducible refine LeO.bind ?_ (fun _ => ?_))
      | exact dunnageref03_Node.mono _ _ _ _ _
      | exact dunnageref06_Use.mono _ _ _ _ _
      | exact LeO.none _
      | refine LeO.ite ?_ ?_
      | refine LeO.bind ?_ (fun _ => ?_)
end Go.Proofs.Ytppfkbigeknedaa.Q
