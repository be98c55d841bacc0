/- dunnageref14.down and dunnageref14.Tighter, by hand. -/
import Derived.Test.YtppfkbigeknedaaUQ0
namespace Go.Proofs.Ytppfkbigeknedaa.Q
open Go.Shelf Go.RowKit Go.Lib Go.Proofs.YtppfkbigeknedaaW.PrintWords Go.Proofs.YtppfkbigeknedaaW.PrintLast Go.Proofs.YtppfkbigeknedaaW.PrintMore
set_option linter.unusedVariables false
set_option linter.unusedSimpArgs false
set_option maxRecDepth 100000
attribute [local go_sem] eqe_ii eqe_nn eqe_ni eqe_nni
def Vec4 (W : World) (g : Nat) (r1 r2 r3 r4 : Int) : Prop :=
  (W.cell? ⟨g, 0, none⟩ = some (.int .u64 r1) ∧ W.cell? ⟨g, 1, none⟩ = some (.int .u64 r2) ∧ W.cell? ⟨g, 2, none⟩ = some (.int .u64 r3) ∧ W.cell? ⟨g, 3, none⟩ = some (.int .u64 r4)) ∧ W.frozen? ⟨g, 0, none⟩ = false ∧ W.frozen? ⟨g, 1, none⟩ = false ∧ W.frozen? ⟨g, 2, none⟩ = false ∧ W.frozen? ⟨g, 3, none⟩ = false
def cs (a b : Int) : Int × Int := if a < b then (b, a) else (a, b)
def Two (W : World) (g : Nat) (r1 r2 r3 r4 : Int) : Prop := Vec4 W g r1 r2 r3 r4 ∧ Vec4 W (g + 1) 0 0 0 0
theorem Two.drew {W : World} {g : Nat} {r1 r2 r3 r4 : Int} (h : Two W g r1 r2 r3 r4) : Two W.drew g r1 r2 r3 r4 := h
theorem two0 (w : World) (a0 a1 a2 a3 : Int) : Two ((w.alloc (.cells #[.int .u64 a0, .int .u64 a1, .int .u64 a2, .int .u64 a3] 33)).alloc (.cells #[.int .u64 0, .int .u64 0, .int .u64 0, .int .u64 0] 33)) w.heap.size a0 a1 a2 a3 := by
  refine ⟨⟨⟨?_, ?_, ?_, ?_⟩, ?_, ?_, ?_, ?_⟩, ⟨?_, ?_, ?_, ?_⟩, ?_, ?_, ?_, ?_⟩ <;> simp [go_sem]
theorem two_set01 {W : World} {g : Nat} {r0 r1 r2 r3 : Int} (h : Two W g r0 r1 r2 r3) : Two ((W.setCell ⟨g, 0, none⟩ (.int .u64 r1)).setCell ⟨g, 1, none⟩ (.int .u64 r0)) g r1 r0 r2 r3 := by
  obtain ⟨⟨⟨h0, h1, h2, h3⟩, f0, f1, f2, f3⟩, ⟨h4, h5, h6, h7⟩, f4, f5, f6, f7⟩ := h
  refine ⟨⟨⟨?_, ?_, ?_, ?_⟩, ?_, ?_, ?_, ?_⟩, ⟨?_, ?_, ?_, ?_⟩, ?_, ?_, ?_, ?_⟩ <;> simp [go_sem, h0, h1, h2, h3, f0, f1, f2, f3, h4, h5, h6, h7, f4, f5, f6, f7]
theorem two_set02 {W : World} {g : Nat} {r0 r1 r2 r3 : Int} (h : Two W g r0 r1 r2 r3) : Two ((W.setCell ⟨g, 0, none⟩ (.int .u64 r2)).setCell ⟨g, 2, none⟩ (.int .u64 r0)) g r2 r1 r0 r3 := by
  obtain ⟨⟨⟨h0, h1, h2, h3⟩, f0, f1, f2, f3⟩, ⟨h4, h5, h6, h7⟩, f4, f5, f6, f7⟩ := h
  refine ⟨⟨⟨?_, ?_, ?_, ?_⟩, ?_, ?_, ?_, ?_⟩, ⟨?_, ?_, ?_, ?_⟩, ?_, ?_, ?_, ?_⟩ <;> simp [go_sem, h0, h1, h2, h3, f0, f1, f2, f3, h4, h5, h6, h7, f4, f5, f6, f7]
theorem two_set03 {W : World} {g : Nat} {r0 r1 r2 r3 : Int} (h : Two W g r0 r1 r2 r3) : Two ((W.setCell ⟨g, 0, none⟩ (.int .u64 r3)).setCell ⟨g, 3, none⟩ (.int .u64 r0)) g r3 r1 r2 r0 := by
  obtain ⟨⟨⟨h0, h1, h2, h3⟩, f0, f1, f2, f3⟩, ⟨h4, h5, h6, h7⟩, f4, f5, f6, f7⟩ := h
  refine ⟨⟨⟨?_, ?_, ?_, ?_⟩, ?_, ?_, ?_, ?_⟩, ⟨?_, ?_, ?_, ?_⟩, ?_, ?_, ?_, ?_⟩ <;> simp [go_sem, h0, h1, h2, h3, f0, f1, f2, f3, h4, h5, h6, h7, f4, f5, f6, f7]
theorem two_set12 {W : World} {g : Nat} {r0 r1 r2 r3 : Int} (h : Two W g r0 r1 r2 r3) : Two ((W.setCell ⟨g, 1, none⟩ (.int .u64 r2)).setCell ⟨g, 2, none⟩ (.int .u64 r1)) g r0 r2 r1 r3 := by
  obtain ⟨⟨⟨h0, h1, h2, h3⟩, f0, f1, f2, f3⟩, ⟨h4, h5, h6, h7⟩, f4, f5, f6, f7⟩ := h
  refine ⟨⟨⟨?_, ?_, ?_, ?_⟩, ?_, ?_, ?_, ?_⟩, ⟨?_, ?_, ?_, ?_⟩, ?_, ?_, ?_, ?_⟩ <;> simp [go_sem, h0, h1, h2, h3, f0, f1, f2, f3, h4, h5, h6, h7, f4, f5, f6, f7]
theorem two_set13 {W : World} {g : Nat} {r0 r1 r2 r3 : Int} (h : Two W g r0 r1 r2 r3) : Two ((W.setCell ⟨g, 1, none⟩ (.int .u64 r3)).setCell ⟨g, 3, none⟩ (.int .u64 r1)) g r0 r3 r2 r1 := by
  obtain ⟨⟨⟨h0, h1, h2, h3⟩, f0, f1, f2, f3⟩, ⟨h4, h5, h6, h7⟩, f4, f5, f6, f7⟩ := h
  refine ⟨⟨⟨?_, ?_, ?_, ?_⟩, ?_, ?_, ?_, ?_⟩, ⟨?_, ?_, ?_, ?_⟩, ?_, ?_, ?_, ?_⟩ <;> simp [go_sem, h0, h1, h2, h3, f0, f1, f2, f3, h4, h5, h6, h7, f4, f5, f6, f7]
theorem two_set23 {W : World} {g : Nat} {r0 r1 r2 r3 : Int} (h : Two W g r0 r1 r2 r3) : Two ((W.setCell ⟨g, 2, none⟩ (.int .u64 r3)).setCell ⟨g, 3, none⟩ (.int .u64 r2)) g r0 r1 r3 r2 := by
  obtain ⟨⟨⟨h0, h1, h2, h3⟩, f0, f1, f2, f3⟩, ⟨h4, h5, h6, h7⟩, f4, f5, f6, f7⟩ := h
  refine ⟨⟨⟨?_, ?_, ?_, ?_⟩, ?_, ?_, ?_, ?_⟩, ⟨?_, ?_, ?_, ?_⟩, ?_, ?_, ?_, ?_⟩ <;> simp [go_sem, h0, h1, h2, h3, f0, f1, f2, f3, h4, h5, h6, h7, f4, f5, f6, f7]
def downF (a0 a1 a2 a3 : Int) : Int × Int × Int × Int :=
  let c0 := cs a0 a1
  let c1 := cs c0.1 a2
  let c2 := cs c1.1 a3
  let c3 := cs c0.2 c1.2
  let c4 := cs c3.1 c2.2
  let c5 := cs c3.2 c4.2
  (c2.1, c4.1, c5.1, c5.2)
set_option maxHeartbeats 8000000 in
theorem down_calls (a0 a1 a2 a3 r0 r1 r2 r3 : Int) (hr : downF a0 a1 a2 a3 = (r0, r1, r2, r3)) (w : World) :
    Calls Try.prog 113 #[.agg #[.int .u64 a0, .int .u64 a1, .int .u64 a2, .int .u64 a3]] w fun e w' => e = .returned (.agg #[.int .u64 r0, .int .u64 r1, .int .u64 r2, .int .u64 r3]) ∧ Below w.heap.size w w' := by
  obtain ⟨⟨x0, y0⟩, e0⟩ : ∃ z, z = cs a0 a1 := ⟨_, rfl⟩
  obtain ⟨⟨x1, y1⟩, e1⟩ : ∃ z, z = cs x0 a2 := ⟨_, rfl⟩
  obtain ⟨⟨x2, y2⟩, e2⟩ : ∃ z, z = cs x1 a3 := ⟨_, rfl⟩
  obtain ⟨⟨x3, y3⟩, e3⟩ : ∃ z, z = cs y0 y1 := ⟨_, rfl⟩
  obtain ⟨⟨x4, y4⟩, e4⟩ : ∃ z, z = cs x3 y2 := ⟨_, rfl⟩
  obtain ⟨⟨x5, y5⟩, e5⟩ : ∃ z, z = cs y3 y4 := ⟨_, rfl⟩
  simp only [downF, ← e0, ← e1, ← e2, ← e3, ← e4, ← e5] at hr
  obtain ⟨rfl, rfl, rfl, rfl⟩ : x2 = r0 ∧ x4 = r1 ∧ x5 = r2 ∧ y5 = r3 := by simpa using hr
  clear hr
  have E0 := Aside0.mk e0
  clear e0
  have E1 := Aside0.mk e1
  clear e1
  have E2 := Aside0.mk e2
  clear e2
  have E3 := Aside0.mk e3
  clear e3
  have E4 := Aside0.mk e4
  clear e4
  have E5 := Aside0.mk e5
  clear e5
  go_enter Try.func113, Try.ntmps113
  go_wp2
  have HT := Aside0.mk (two0 w a0 a1 a2 a3)
  have HB := Aside0.mk (below_alloc (below_alloc (Below.refl w.heap.size w) (.cells #[.int .u64 a0, .int .u64 a1, .int .u64 a2, .int .u64 a3] 33)) (.cells #[.int .u64 0, .int .u64 0, .int .u64 0, .int .u64 0] 33))
  generalize (w.alloc (.cells #[.int .u64 a0, .int .u64 a1, .int .u64 a2, .int .u64 a3] 33)).alloc (.cells #[.int .u64 0, .int .u64 0, .int .u64 0, .int .u64 0] 33) = W0 at HT HB ⊢
  refine wp_loop_rounds 5 ?_
  rw [rounds_succ]
  go_wp2
  refine wp_loop_rounds 4 ?_
  rw [rounds_succ]
  go_upto_block 3 with fail
  go_cut [] from 5 (fun wc => Aside0 (Two wc w.heap.size x0 y0 a2 a3) ∧ Aside0 (Below w.heap.size w wc))
  case first =>
    have HT0 := HT.out
    obtain ⟨⟨⟨h0, h1, h2, h3⟩, f0, f1, f2, f3⟩, hz⟩ := HT.out
    have HZ := Aside0.mk hz
    clear hz
    have HT1 := Aside0.mk HT0
    clear HT0
    by_cases hlt : a0 < a1
    · have hd : decide (a0 < a1) = true := decide_eq_true hlt
      have HL := Aside0.mk hlt
      clear hlt
      go_wp2
      go_region
      try go_wp2
      go_meet
      case rel =>
        have e := E0.out
        simp only [cs, if_pos HL.out, Prod.mk.injEq] at e
        obtain ⟨rfl, rfl⟩ := e
        exact ⟨⟨two_set01 HT1.out.drew⟩, ⟨below_set (below_set (below_drew1 HB.out) (Nat.le_refl _)) (Nat.le_refl _)⟩⟩
    · have hd : decide (a0 < a1) = false := decide_eq_false hlt
      have HL := Aside0.mk hlt
      clear hlt
      go_wp2
      go_region
      try go_wp2
      go_meet
      case rel =>
        have e := E0.out
        simp only [cs, if_neg (Int.not_lt.2 HL.out), Prod.mk.injEq] at e
        obtain ⟨rfl, rfl⟩ := e
        exact ⟨⟨HT1.out.drew⟩, ⟨below_drew1 HB.out⟩⟩
  case rest =>
    clear HT HB E0
    obtain ⟨HT, HB⟩ := hcut
    try go_wp2
    rw [rounds_succ]
    go_upto_block 3 with fail
    go_cut [] from 5 (fun wc => Aside0 (Two wc w.heap.size x1 y0 y1 a3) ∧ Aside0 (Below w.heap.size w wc))
    case first =>
      have HT0 := HT.out
      obtain ⟨⟨⟨h0, h1, h2, h3⟩, f0, f1, f2, f3⟩, hz⟩ := HT.out
      have HZ := Aside0.mk hz
      clear hz
      have HT1 := Aside0.mk HT0
      clear HT0
      by_cases hlt : x0 < a2
      · have hd : decide (x0 < a2) = true := decide_eq_true hlt
        have HL := Aside0.mk hlt
        clear hlt
        go_wp2
        go_region
        try go_wp2
        go_meet
        case rel =>
          have e := E1.out
          simp only [cs, if_pos HL.out, Prod.mk.injEq] at e
          obtain ⟨rfl, rfl⟩ := e
          exact ⟨⟨two_set02 HT1.out.drew⟩, ⟨below_set (below_set (below_drew1 HB.out) (Nat.le_refl _)) (Nat.le_refl _)⟩⟩
      · have hd : decide (x0 < a2) = false := decide_eq_false hlt
        have HL := Aside0.mk hlt
        clear hlt
        go_wp2
        go_region
        try go_wp2
        go_meet
        case rel =>
          have e := E1.out
          simp only [cs, if_neg (Int.not_lt.2 HL.out), Prod.mk.injEq] at e
          obtain ⟨rfl, rfl⟩ := e
          exact ⟨⟨HT1.out.drew⟩, ⟨below_drew1 HB.out⟩⟩
    case rest =>
      clear HT HB E1
      obtain ⟨HT, HB⟩ := hcut
      try go_wp2
      rw [rounds_succ]
      go_upto_block 3 with fail
      go_cut [] from 5 (fun wc => Aside0 (Two wc w.heap.size x2 y0 y1 y2) ∧ Aside0 (Below w.heap.size w wc))
      case first =>
        have HT0 := HT.out
        obtain ⟨⟨⟨h0, h1, h2, h3⟩, f0, f1, f2, f3⟩, hz⟩ := HT.out
        have HZ := Aside0.mk hz
        clear hz
        have HT1 := Aside0.mk HT0
        clear HT0
        by_cases hlt : x1 < a3
        · have hd : decide (x1 < a3) = true := decide_eq_true hlt
          have HL := Aside0.mk hlt
          clear hlt
          go_wp2
          go_region
          try go_wp2
          go_meet
          case rel =>
            have e := E2.out
            simp only [cs, if_pos HL.out, Prod.mk.injEq] at e
            obtain ⟨rfl, rfl⟩ := e
            exact ⟨⟨two_set03 HT1.out.drew⟩, ⟨below_set (below_set (below_drew1 HB.out) (Nat.le_refl _)) (Nat.le_refl _)⟩⟩
        · have hd : decide (x1 < a3) = false := decide_eq_false hlt
          have HL := Aside0.mk hlt
          clear hlt
          go_wp2
          go_region
          try go_wp2
          go_meet
          case rel =>
            have e := E2.out
            simp only [cs, if_neg (Int.not_lt.2 HL.out), Prod.mk.injEq] at e
            obtain ⟨rfl, rfl⟩ := e
            exact ⟨⟨HT1.out.drew⟩, ⟨below_drew1 HB.out⟩⟩
      case rest =>
        clear HT HB E2
        obtain ⟨HT, HB⟩ := hcut
        try go_wp2
        rw [rounds_succ]
        go_wp2
        rw [rounds_succ]
        go_wp2
        refine wp_loop_rounds 3 ?_
        rw [rounds_succ]
        go_upto_block 3 with fail
        go_cut [] from 5 (fun wc => Aside0 (Two wc w.heap.size x2 x3 y3 y2) ∧ Aside0 (Below w.heap.size w wc))
        case first =>
          have HT0 := HT.out
          obtain ⟨⟨⟨h0, h1, h2, h3⟩, f0, f1, f2, f3⟩, hz⟩ := HT.out
          have HZ := Aside0.mk hz
          clear hz
          have HT1 := Aside0.mk HT0
          clear HT0
          by_cases hlt : y0 < y1
          · have hd : decide (y0 < y1) = true := decide_eq_true hlt
            have HL := Aside0.mk hlt
            clear hlt
            go_wp2
            go_region
            try go_wp2
            go_meet
            case rel =>
              have e := E3.out
              simp only [cs, if_pos HL.out, Prod.mk.injEq] at e
              obtain ⟨rfl, rfl⟩ := e
              exact ⟨⟨two_set12 HT1.out.drew⟩, ⟨below_set (below_set (below_drew1 HB.out) (Nat.le_refl _)) (Nat.le_refl _)⟩⟩
          · have hd : decide (y0 < y1) = false := decide_eq_false hlt
            have HL := Aside0.mk hlt
            clear hlt
            go_wp2
            go_region
            try go_wp2
            go_meet
            case rel =>
              have e := E3.out
              simp only [cs, if_neg (Int.not_lt.2 HL.out), Prod.mk.injEq] at e
              obtain ⟨rfl, rfl⟩ := e
              exact ⟨⟨HT1.out.drew⟩, ⟨below_drew1 HB.out⟩⟩
        case rest =>
          clear HT HB E3
          obtain ⟨HT, HB⟩ := hcut
          try go_wp2
          rw [rounds_succ]
          go_upto_block 3 with fail
          go_cut [] from 5 (fun wc => Aside0 (Two wc w.heap.size x2 x4 y3 y4) ∧ Aside0 (Below w.heap.size w wc))
          case first =>
            have HT0 := HT.out
            obtain ⟨⟨⟨h0, h1, h2, h3⟩, f0, f1, f2, f3⟩, hz⟩ := HT.out
            have HZ := Aside0.mk hz
            clear hz
            have HT1 := Aside0.mk HT0
            clear HT0
            by_cases hlt : x3 < y2
            · have hd : decide (x3 < y2) = true := decide_eq_true hlt
              have HL := Aside0.mk hlt
              clear hlt
              go_wp2
              go_region
              try go_wp2
              go_meet
              case rel =>
                have e := E4.out
                simp only [cs, if_pos HL.out, Prod.mk.injEq] at e
                obtain ⟨rfl, rfl⟩ := e
                exact ⟨⟨two_set13 HT1.out.drew⟩, ⟨below_set (below_set (below_drew1 HB.out) (Nat.le_refl _)) (Nat.le_refl _)⟩⟩
            · have hd : decide (x3 < y2) = false := decide_eq_false hlt
              have HL := Aside0.mk hlt
              clear hlt
              go_wp2
              go_region
              try go_wp2
              go_meet
              case rel =>
                have e := E4.out
                simp only [cs, if_neg (Int.not_lt.2 HL.out), Prod.mk.injEq] at e
                obtain ⟨rfl, rfl⟩ := e
                exact ⟨⟨HT1.out.drew⟩, ⟨below_drew1 HB.out⟩⟩
          case rest =>
            clear HT HB E4
            obtain ⟨HT, HB⟩ := hcut
            try go_wp2
            rw [rounds_succ]
            go_wp2
            rw [rounds_succ]
            go_wp2
            refine wp_loop_rounds 2 ?_
            rw [rounds_succ]
            go_upto_block 3 with fail
            go_cut [] from 5 (fun wc => Aside0 (Two wc w.heap.size x2 x4 x5 y5) ∧ Aside0 (Below w.heap.size w wc))
            case first =>
              have HT0 := HT.out
              obtain ⟨⟨⟨h0, h1, h2, h3⟩, f0, f1, f2, f3⟩, hz⟩ := HT.out
              have HZ := Aside0.mk hz
              clear hz
              have HT1 := Aside0.mk HT0
              clear HT0
              by_cases hlt : y3 < y4
              · have hd : decide (y3 < y4) = true := decide_eq_true hlt
                have HL := Aside0.mk hlt
                clear hlt
                go_wp2
                go_region
                try go_wp2
                go_meet
                case rel =>
                  have e := E5.out
                  simp only [cs, if_pos HL.out, Prod.mk.injEq] at e
                  obtain ⟨rfl, rfl⟩ := e
                  exact ⟨⟨two_set23 HT1.out.drew⟩, ⟨below_set (below_set (below_drew1 HB.out) (Nat.le_refl _)) (Nat.le_refl _)⟩⟩
              · have hd : decide (y3 < y4) = false := decide_eq_false hlt
                have HL := Aside0.mk hlt
                clear hlt
                go_wp2
                go_region
                try go_wp2
                go_meet
                case rel =>
                  have e := E5.out
                  simp only [cs, if_neg (Int.not_lt.2 HL.out), Prod.mk.injEq] at e
                  obtain ⟨rfl, rfl⟩ := e
                  exact ⟨⟨HT1.out.drew⟩, ⟨below_drew1 HB.out⟩⟩
            case rest =>
              clear HT HB E5
              obtain ⟨HT, HB⟩ := hcut
              try go_wp2
              rw [rounds_succ]
              go_wp2
              rw [rounds_succ]
              go_wp2
              refine wp_loop_rounds 1 ?_
              rw [rounds_succ]
              go_wp2
              obtain ⟨⟨⟨h0, h1, h2, h3⟩, f0, f1, f2, f3⟩, ⟨h4, h5, h6, h7⟩, f4, f5, f6, f7⟩ := HT.out
              rw [rounds_succ]
              go_wp2
              refine bodyPost_ret (v := .agg #[.int .u64 x2, .int .u64 x4, .int .u64 x5, .int .u64 y5]) (by simp [results, Try.results113, go_sem, *]) rfl ⟨rfl, ?_⟩
              repeat (first | exact HB.out | (refine below_set ?_ (by show w.heap.size ≤ _; omega)) | apply below_drew1)
theorem two0b (w : World) (a0 a1 a2 a3 b0 b1 b2 b3 : Int) : Vec4 ((w.alloc (.cells #[.int .u64 a0, .int .u64 a1, .int .u64 a2, .int .u64 a3] 33)).alloc (.cells #[.int .u64 b0, .int .u64 b1, .int .u64 b2, .int .u64 b3] 33)) (w.heap.size + 1) b0 b1 b2 b3 := by
  refine ⟨⟨?_, ?_, ?_, ?_⟩, ?_, ?_, ?_, ?_⟩ <;> simp [go_sem]
theorem Vec4.block {W W1 : World} {g : Nat} {r1 r2 r3 r4 : Int} (h : Vec4 W g r1 r2 r3 r4) (hb : W1.heap[g]? = W.heap[g]?) : Vec4 W1 g r1 r2 r3 r4 := by
  have c : ∀ j, W1.cell? ⟨g, j, none⟩ = W.cell? ⟨g, j, none⟩ := fun j => World.cell?_of_block (w := W) hb
  have f : ∀ j, W1.frozen? ⟨g, j, none⟩ = W.frozen? ⟨g, j, none⟩ := fun j => World.frozen?_of_block (w := W) hb
  unfold Vec4
  rw [c, c, c, c, f, f, f, f]
  exact h
theorem vec4 (w : World) (x0 x1 x2 x3 : Int) : Vec4 (w.alloc (.cells #[.int .u64 x0, .int .u64 x1, .int .u64 x2, .int .u64 x3] 33)) w.heap.size x0 x1 x2 x3 := by
  refine ⟨⟨?_, ?_, ?_, ?_⟩, ?_, ?_, ?_, ?_⟩ <;> simp [go_sem]
def lexF (x0 x1 x2 x3 y0 y1 y2 y3 : Int) : Bool :=
  if x0 ≠ y0 then decide (x0 < y0) else if x1 ≠ y1 then decide (x1 < y1) else if x2 ≠ y2 then decide (x2 < y2) else if x3 ≠ y3 then decide (x3 < y3) else false
def tighterF (a0 a1 a2 a3 b0 b1 b2 b3 : Int) : Bool :=
  lexF (downF a0 a1 a2 a3).1 (downF a0 a1 a2 a3).2.1 (downF a0 a1 a2 a3).2.2.1 (downF a0 a1 a2 a3).2.2.2 (downF b0 b1 b2 b3).1 (downF b0 b1 b2 b3).2.1 (downF b0 b1 b2 b3).2.2.1 (downF b0 b1 b2 b3).2.2.2
set_option maxHeartbeats 8000000 in
theorem tighter_calls (a0 a1 a2 a3 b0 b1 b2 b3 : Int) (w : World) :
    Calls Try.prog 65 #[.agg #[.int .u64 a0, .int .u64 a1, .int .u64 a2, .int .u64 a3], .agg #[.int .u64 b0, .int .u64 b1, .int .u64 b2, .int .u64 b3]] w fun e w' => e = .returned (.bool (tighterF a0 a1 a2 a3 b0 b1 b2 b3)) ∧ Below w.heap.size w w' := by
  obtain ⟨⟨x0, x1, x2, x3⟩, ex⟩ : ∃ z, z = downF a0 a1 a2 a3 := ⟨_, rfl⟩
  obtain ⟨⟨y0, y1, y2, y3⟩, ey⟩ : ∃ z, z = downF b0 b1 b2 b3 := ⟨_, rfl⟩
  have ca := down_calls a0 a1 a2 a3 x0 x1 x2 x3 ex.symm
  have cb := down_calls b0 b1 b2 b3 y0 y1 y2 y3 ey.symm
  have HT : Aside0 (tighterF a0 a1 a2 a3 b0 b1 b2 b3 = lexF x0 x1 x2 x3 y0 y1 y2 y3) := ⟨by unfold tighterF; rw [← ex, ← ey]⟩
  clear ex ey
  go_enter Try.func65, Try.ntmps65
  go_wp2_with fail
  have HS := Aside0.mk (two0b w a0 a1 a2 a3 b0 b1 b2 b3)
  have HB0 := Aside0.mk (below_alloc (below_alloc (Below.refl w.heap.size w) (.cells #[.int .u64 a0, .int .u64 a1, .int .u64 a2, .int .u64 a3] 33)) (.cells #[.int .u64 b0, .int .u64 b1, .int .u64 b2, .int .u64 b3] 33))
  have hz : ((w.alloc (.cells #[.int .u64 a0, .int .u64 a1, .int .u64 a2, .int .u64 a3] 33)).alloc (.cells #[.int .u64 b0, .int .u64 b1, .int .u64 b2, .int .u64 b3] 33)).heap.size = w.heap.size + 2 := by simp
  have HZ := Aside0.mk hz
  clear hz
  generalize (w.alloc (.cells #[.int .u64 a0, .int .u64 a1, .int .u64 a2, .int .u64 a3] 33)).alloc (.cells #[.int .u64 b0, .int .u64 b1, .int .u64 b2, .int .u64 b3] 33) = W0 at HS HB0 HZ ⊢
  refine (ca _).mono ?_
  rintro e w1 ⟨rfl, hb⟩
  have HB1 := Aside0.mk (below_step HB0.out hb)
  have HZ1 := Aside0.mk (show w.heap.size + 2 ≤ w1.heap.size by have := hb.size; have := HZ.out; omega)
  obtain ⟨⟨h0, h1, h2, h3⟩, -⟩ := (HS.out.block (hb.block _ (by have := HZ.out; omega))).block (Below.heap_alloc w1 (.cells #[.int .u64 x0, .int .u64 x1, .int .u64 x2, .int .u64 x3] 33) (w.heap.size + 1) (by have := HZ1.out; omega))
  clear hb HB0 HS
  go_wp2_with fail
  refine (cb _).mono ?_
  rintro e w2 ⟨rfl, hb⟩
  have HB2 := Aside0.mk (below_step (below_alloc HB1.out (.cells #[.int .u64 x0, .int .u64 x1, .int .u64 x2, .int .u64 x3] 33)) hb)
  have HX := Aside0.mk ((vec4 w1 x0 x1 x2 x3).block (hb.block _ (by simp)))
  have HZ2 := Aside0.mk (show w1.heap.size < w2.heap.size by have := hb.size; simp at this; omega)
  clear hb HB1
  go_wp2_with fail
  have HX3 := Aside0.mk (HX.out.block (Below.heap_alloc w2 (.cells #[.int .u64 y0, .int .u64 y1, .int .u64 y2, .int .u64 y3] 33) w1.heap.size HZ2.out))
  have HY3 := Aside0.mk (vec4 w2 y0 y1 y2 y3)
  have HB3 := Aside0.mk (below_alloc HB2.out (.cells #[.int .u64 y0, .int .u64 y1, .int .u64 y2, .int .u64 y3] 33))
  clear HX HB2 h0 h1 h2 h3
  generalize w2.alloc (.cells #[.int .u64 y0, .int .u64 y1, .int .u64 y2, .int .u64 y3] 33) = W3 at HX3 HY3 HB3 ⊢
  generalize w1.heap.size = gx at HX3 HZ1 HZ2 ⊢
  generalize w2.heap.size = gy at HY3 HZ2 ⊢
  obtain ⟨⟨h0, h1, h2, h3⟩, -⟩ := HX3.out
  obtain ⟨⟨h4, h5, h6, h7⟩, -⟩ := HY3.out
  clear HX3 HY3 ca cb
  refine wp_loop_rounds 5 ?_
  rw [rounds_succ]
  go_wp2
  by_cases e0 : x0 = y0
  case neg =>
    have hq : (x0 == y0) = false := by simpa using e0
    have hq' : (x0 != y0) = true := by simpa using e0
    have e := Aside0.mk e0
    clear e0
    go_region
    try go_wp2
    try go_region
    try go_wp2
    go_ret
    exact ⟨by rw [HT.out]; simp [lexF, e.out], by repeat (first | exact HB3.out | apply below_drew1 | apply pw_below_drewN)⟩
  subst e0
  have hq0 : (x0 != x0) = false := by simp
  go_region
  try go_wp2
  rw [rounds_succ]
  go_wp2
  by_cases e1 : x1 = y1
  case neg =>
    have hq : (x1 == y1) = false := by simpa using e1
    have hq' : (x1 != y1) = true := by simpa using e1
    have e := Aside0.mk e1
    clear e1
    go_region
    try go_wp2
    try go_region
    try go_wp2
    go_ret
    exact ⟨by rw [HT.out]; simp [lexF, e.out], by repeat (first | exact HB3.out | apply below_drew1 | apply pw_below_drewN)⟩
  subst e1
  have hq1 : (x1 != x1) = false := by simp
  go_region
  try go_wp2
  rw [rounds_succ]
  go_wp2
  by_cases e2 : x2 = y2
  case neg =>
    have hq : (x2 == y2) = false := by simpa using e2
    have hq' : (x2 != y2) = true := by simpa using e2
    have e := Aside0.mk e2
    clear e2
    go_region
    try go_wp2
    try go_region
    try go_wp2
    go_ret
    exact ⟨by rw [HT.out]; simp [lexF, e.out], by repeat (first | exact HB3.out | apply below_drew1 | apply pw_below_drewN)⟩
  subst e2
  have hq2 : (x2 != x2) = false := by simp
  go_region
  try go_wp2
  rw [rounds_succ]
  go_wp2
  by_cases e3 : x3 = y3
  case neg =>
    have hq : (x3 == y3) = false := by simpa using e3
    have hq' : (x3 != y3) = true := by simpa using e3
    have e := Aside0.mk e3
    clear e3
    go_region
    try go_wp2
    try go_region
    try go_wp2
    go_ret
    exact ⟨by rw [HT.out]; simp [lexF, e.out], by repeat (first | exact HB3.out | apply below_drew1 | apply pw_below_drewN)⟩
  subst e3
  have hq3 : (x3 != x3) = false := by simp
  go_region
  try go_wp2
  rw [rounds_succ]
  go_wp2
  go_ret
  exact ⟨by rw [HT.out]; simp [lexF], by repeat (first | exact HB3.out | apply below_drew1 | apply pw_below_drewN)⟩
end Go.Proofs.Ytppfkbigeknedaa.Q
