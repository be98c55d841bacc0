/- journal.read and journal.first, by hand. -/
import Derived.Test.YtppfkbigeknedaaKReadMoves
import Derived.Test.YtppfkbigeknedaaKEntryLaws
import Derived.StillTailTactics
namespace Go.Proofs.Ytppfkbigeknedaa.Q
open Go.RowKit Go.Proofs.YtppfkbigeknedaaW.PrintWords Go.Proofs.YtppfkbigeknedaaW.PrintLast Go.Proofs.YtppfkbigeknedaaW.PrintMore
set_option linter.unusedVariables false
set_option linter.unusedSimpArgs false
set_option maxRecDepth 100000
attribute [local go_sem] eqe_ii eqe_nn eqe_ni eqe_nni
def tailP (a : Int) : Option (List Int) → S60
  | some [n] => if a ≤ 4 ∧ n ≤ 40 then ⟨a, n, []⟩ else ⟨0, 0, []⟩
  | _ => ⟨0, 0, []⟩
def movesP : Option (List S130) → S60
  | none => ⟨0, 0, []⟩
  | some m => ⟨1, 0, m⟩
def progRead (b : List Int) : S60 :=
  match oneG 9 b with
  | none => ⟨0, 0, []⟩
  | some (a, l) => if a = 1 then movesP (readMovesL (b.drop l)) else tailP a (allL (b.drop l))
theorem cut_u8 (A : Option Addr) (c : Nat) (b : List Int) (l : Nat) (h : l ≤ b.length) (hc : b.length ≤ c) : ∃ A' : Option Addr, (∀ W : World, (Instr.slice 46 (.slice A b.length c) (some (.int .i64 (l : Int))) none none).run Try.prog W = .ok (.slice A' (b.drop l).length (c - l)) W) ∧
    (b.drop l).length ≤ c - l ∧ ∀ W : World, Kd.C (Kd.int .u8) W A b.length b → Kd.C (Kd.int .u8) W A' (b.drop l).length (b.drop l) := by
  obtain ⟨i5, hi5, hz⟩ := Option.map_eq_some_iff.1 info5
  have hsz : i5.size = 1 := by simp only [Prod.mk.injEq] at hz; exact hz.2.1
  obtain ⟨A', h1, h2, h3⟩ := print_drop_of (P := Try.prog) (Value.int .u8) (0 : Int) 46 5 .i64 Try.underlying46 hi5 hsz A c b l (by omega) (by omega) hc
  simp only [Int.toNat_natCast] at h1 h2 h3
  exact ⟨A', h1, h3, fun W hC => Kd.C_of_reads (h2 W (Kd.reads_of_C hC))⟩
theorem mid_u8 (A : Option Addr) (c : Nat) (b : List Int) (l m : Nat) (hlm : l ≤ m) (h : m ≤ b.length) (hc : b.length ≤ c) : ∃ A' : Option Addr, (∀ W : World, (Instr.slice 46 (.slice A b.length c) (some (.int .i64 (l : Int))) (some (.int .i64 (m : Int))) none).run Try.prog W = .ok (.slice A' ((b.take m).drop l).length (c - l)) W) ∧
    ((b.take m).drop l).length ≤ c - l ∧ ∀ W : World, Kd.C (Kd.int .u8) W A b.length b → Kd.C (Kd.int .u8) W A' ((b.take m).drop l).length ((b.take m).drop l) := by
  obtain ⟨i5, hi5, hz⟩ := Option.map_eq_some_iff.1 info5
  have hsz : i5.size = 1 := by simp only [Prod.mk.injEq] at hz; exact hz.2.1
  obtain ⟨A', h1, h2, h3⟩ := print_mid_of (P := Try.prog) (Value.int .u8) (0 : Int) 46 5 .i64 .i64 Try.underlying46 hi5 hsz A c b l m (by omega) (by omega) (by omega) hc
  simp only [Int.toNat_natCast] at h1 h2 h3
  exact ⟨A', h1, h3, fun W hC => Kd.C_of_reads (h2 W (Kd.reads_of_C hC))⟩
theorem cell60 (W : World) (x y : Int) (v : Value) : (W.alloc (.cells #[.int .i64 x, .int .i64 y, v] 60)).heap[W.heap.size]? = some (.cells #[.int .i64 x, .int .i64 y, v] 60 (0, 0)) := by
  show (W.heap.push _)[W.heap.size]? = _
  simp
set_option maxHeartbeats 8000000 in
theorem read_calls {W : World} {A : Option Addr} {c : Nat} {b : List Int} (hr : Kd.C (Kd.int .u8) W A b.length b) (hc : b.length ≤ c) (hb : Bytes b) (hl : b.length ≤ 1000000) :
    Calls Try.prog 126 #[.slice A b.length c] W fun e w' => ∃ v, e = .returned (.agg #[.int .i64 (progRead b).f0, .int .i64 (progRead b).f1, v]) ∧ k130.R 130 w' W.heap.size (fun _ => True) v (progRead b).f2 ∧ Below W.heap.size W w' := by
  have HC := Aside0.mk hr
  have HCC := Aside0.mk hc
  have HBY := Aside0.mk hb
  have HL := Aside0.mk hl
  clear hr hc hb hl
  unfold progRead
  cases ho : oneG 9 b with
  | none =>
    have HG := Aside0.mk (fun (w' : World) (hw : Below W.heap.size W w') => get_none (c := c) (Kd.C_below HC.out hw) HCC.out HBY.out HL.out ho)
    clear ho
    simp only
    go_enter Try.func126, Try.ntmps126
    go_wp2_with fail
    refine (HG.out _ (below_alloc (Below.refl _ _) _)).mono ?_
    rintro e w1 ⟨p, rfl, hb1⟩
    have hz := blk_below (cell60 W 0 0 (.slice none 0 0)) hb1
    have z0 : w1.cell? ⟨W.heap.size, 0, none⟩ = some (.int .i64 0) := (blk_cell hz 0).trans rfl
    have z1 : w1.cell? ⟨W.heap.size, 1, none⟩ = some (.int .i64 0) := (blk_cell hz 1).trans rfl
    have z2 : w1.cell? ⟨W.heap.size, 2, none⟩ = some (.slice none 0 0) := (blk_cell hz 2).trans rfl
    have f0 := blk_frozen hz 0
    have f1 := blk_frozen hz 1
    have f2 := blk_frozen hz 2
    have HB := Aside0.mk (below_then (below_alloc (Below.refl W.heap.size W) (.cells #[.int .i64 0, .int .i64 0, .slice none 0 0] 60)) (by simp) hb1)
    clear hb1 hz
    go_wp2
    refine bodyPost_ret (v := .agg #[.int .i64 0, .int .i64 0, .slice none 0 0]) (by simp [results, Try.results126, go_sem, *]) rfl ⟨_, rfl, Kd.R_nil _ _ _ _ _, ?_⟩
    repeat (first | (with_reducible exact HB.out) | (refine below_set ?_ (Nat.le_refl _)))
  | some p =>
    obtain ⟨a, l⟩ := p
    have hbd := one9 b HBY.out a l ho
    have HG := Aside0.mk (fun (w' : World) (hw : Below W.heap.size W w') => get_some (c := c) (Kd.C_below HC.out hw) HCC.out HBY.out HL.out ho)
    obtain ⟨A', hcut, hcl, hcC⟩ := cut_u8 A c b l hbd.2.2.2 HCC.out
    have hdl : (b.drop l).length ≤ 1000000 := by rw [List.length_drop]; have := HL.out; omega
    have hby2 := HBY.out.drop l
    simp only
    obtain ⟨b2, hb2⟩ : ∃ b2, b.drop l = b2 := ⟨_, rfl⟩
    rw [hb2] at hcut hcl hcC hdl hby2 ⊢
    obtain ⟨pr, hpr⟩ : ∃ pr, (if a = 1 then movesP (readMovesL b2) else tailP a (allL b2)) = pr := ⟨_, rfl⟩
    rw [hpr]
    have HPR := Aside0.mk hpr
    clear hpr
    have HCL := Aside0.mk hcl
    have HCC2 := Aside0.mk hcC
    have HBD := Aside0.mk hbd
    have HDL := Aside0.mk hdl
    have HBY2 := Aside0.mk hby2
    clear ho hcl hcC hbd hdl hb2 hby2
    go_enter Try.func126, Try.ntmps126
    go_wp2_with fail
    refine (HG.out _ (below_alloc (Below.refl _ _) _)).mono ?_
    rintro e w1 ⟨v1, rfl, hv1, hb1⟩
    obtain ⟨A1, c1, rfl⟩ := Kd.R_slice hv1
    obtain ⟨ad, e, hx⟩ := Kd.at_int (Kd.R_reads' hv1).2.2 0 (by omega) (by simp)
    cases e
    rw [show ((0 : Int)).toNat = 0 from rfl, Addr.add_zero', show rd [a] 0 = a from rfl] at hx
    have HZ := Aside0.mk (blk_below (cell60 W 0 0 (.slice none 0 0)) hb1)
    have HV := Aside0.mk (Kd.R_lower (base' := W.heap.size) hv1 (by simp))
    have HB := Aside0.mk (below_then (below_alloc (Below.refl W.heap.size W) (.cells #[.int .i64 0, .int .i64 0, .slice none 0 0] 60)) (by simp) hb1)
    clear hb1 hv1
    by_cases ha : a = 1
    · have HPR2 := Aside0.mk (show movesP (readMovesL b2) = pr by rw [← HPR.out, if_pos ha])
      clear HPR
      subst ha
      go_wp2_with fail
      refine (read_moves (c := c - l) (HCC2.out _ (Kd.C_below HC.out HB.out)) HCL.out HBY2.out HDL.out).mono ?_
      rintro e w2 ⟨hb2, hcase⟩
      have hz := blk_below HZ.out hb2
      have HZ2 := Aside0.mk hz
      have z0 : w2.cell? ⟨W.heap.size, 0, none⟩ = some (.int .i64 0) := (blk_cell hz 0).trans rfl
      have z1 : w2.cell? ⟨W.heap.size, 1, none⟩ = some (.int .i64 0) := (blk_cell hz 1).trans rfl
      have z2 : w2.cell? ⟨W.heap.size, 2, none⟩ = some (.slice none 0 0) := (blk_cell hz 2).trans rfl
      have f0 := blk_frozen hz 0
      have f1 := blk_frozen hz 1
      have f2 := blk_frozen hz 2
      have HB2 := Aside0.mk (below_step HB.out hb2)
      rcases hcase with ⟨hm, t, p, rfl⟩ | ⟨v, m, hm, rfl, hv⟩
      · have HM := Aside0.mk hm
        clear hz hb2 hx hm
        go_wp2
        refine bodyPost_ret (v := .agg #[.int .i64 0, .int .i64 0, .slice none 0 0]) (by simp [results, Try.results126, go_sem, *]) rfl ⟨.slice none 0 0, ?_, ?_, ?_⟩
        · rw [← HPR2.out, HM.out]; rfl
        · rw [← HPR2.out, HM.out]; exact Kd.R_nil _ _ _ _ _
        · repeat (first | (with_reducible exact HB2.out) | (refine below_set ?_ (Nat.le_refl _)))
      · have HM := Aside0.mk hm
        have HV2 := Aside0.mk (Kd.R_lower (base' := W.heap.size) hv (below_size HB.out))
        obtain ⟨A3, c3, rfl⟩ := Kd.R_slice hv
        clear hz hb2 hx hv hm
        go_wp2
        refine bodyPost_ret (v := .agg #[.int .i64 1, .int .i64 0, .slice A3 m.length c3]) (by simp [results, Try.results126, go_sem, *]) rfl ⟨.slice A3 m.length c3, ?_, ?_, ?_⟩
        · rw [← HPR2.out, HM.out]; rfl
        · rw [← HPR2.out, HM.out]
          exact Kd.R_mono (Kd.R_far (Kd.R_far (Kd.R_far (Kd.R_types HV2.out HZ2.out (by decide)) (fun k hk => hk.2) _) (fun k hk => hk.2) _) (fun k hk => hk.2) _) (fun _ _ => trivial)
        · repeat (first | (with_reducible exact HB2.out) | (refine below_set ?_ (Nat.le_refl _)))
    · have hab : (a == 1) = false := beq_eq_false_iff_ne.mpr ha
      go_wp2_with fail
      refine (all_calls (c := c - l) (HCC2.out _ (Kd.C_below HC.out HB.out)) HCL.out HBY2.out HDL.out).mono ?_
      rintro e w2 ⟨hb2, hcase⟩
      have hz := blk_below HZ.out hb2
      have HZ2 := Aside0.mk hz
      have z0 : w2.cell? ⟨W.heap.size, 0, none⟩ = some (.int .i64 0) := (blk_cell hz 0).trans rfl
      have z1 : w2.cell? ⟨W.heap.size, 1, none⟩ = some (.int .i64 0) := (blk_cell hz 1).trans rfl
      have z2 : w2.cell? ⟨W.heap.size, 2, none⟩ = some (.slice none 0 0) := (blk_cell hz 2).trans rfl
      have f0 := blk_frozen hz 0
      have f1 := blk_frozen hz 1
      have f2 := blk_frozen hz 2
      have HB2 := Aside0.mk (below_step HB.out hb2)
      have hx2 := pw_cell_below hb2 hx
      have hbad : ∀ w3 : World, True := fun _ => trivial
      rcases hcase with ⟨p, hal, rfl⟩ | ⟨v, ns, hal, rfl, hv⟩
      · have HM := Aside0.mk hal
        clear hz hb2 hx hal
        go_wp2
        refine bodyPost_ret (v := .agg #[.int .i64 0, .int .i64 0, .slice none 0 0]) (by simp [results, Try.results126, go_sem, *]) rfl ⟨.slice none 0 0, ?_, ?_, ?_⟩
        · rw [← HPR.out, if_neg ha, HM.out]; rfl
        · rw [← HPR.out, if_neg ha, HM.out]; exact Kd.R_nil _ _ _ _ _
        · repeat (first | (with_reducible exact HB2.out) | (refine below_set ?_ (Nat.le_refl _)))
      · have HM := Aside0.mk hal
        have hin := (allL_in _ HBY2.out ns hal)
        obtain ⟨A3, c3, rfl⟩ := Kd.R_slice hv
        match ns, hv, HM, hin with
        | [], hv, HM, hin =>
          clear hz hb2 hx hv hal hin
          go_wp2
          refine bodyPost_ret (v := .agg #[.int .i64 0, .int .i64 0, .slice none 0 0]) (by simp [results, Try.results126, go_sem, *]) rfl ⟨.slice none 0 0, ?_, ?_, ?_⟩
          · rw [← HPR.out, if_neg ha, HM.out]; rfl
          · rw [← HPR.out, if_neg ha, HM.out]; exact Kd.R_nil _ _ _ _ _
          · repeat (first | (with_reducible exact HB2.out) | (refine below_set ?_ (Nat.le_refl _)))
        | n :: n2 :: r, hv, HM, hin =>
          have hlen : (n :: n2 :: r).length = r.length + 1 + 1 := rfl
          have hne : ((((r.length + 1 + 1 : Nat)) : Int) != 1) = true := bne_iff_ne.mpr (by omega)
          clear hz hb2 hx hv hal hin
          rw [hlen]
          go_wp2
          refine bodyPost_ret (v := .agg #[.int .i64 0, .int .i64 0, .slice none 0 0]) (by simp [results, Try.results126, go_sem, *]) rfl ⟨.slice none 0 0, ?_, ?_, ?_⟩
          · rw [← HPR.out, if_neg ha, HM.out]; rfl
          · rw [← HPR.out, if_neg ha, HM.out]; exact Kd.R_nil _ _ _ _ _
          · repeat (first | (with_reducible exact HB2.out) | (refine below_set ?_ (Nat.le_refl _)))
        | [n], hv, HM, hin =>
          have hn := hin.2 n (by simp)
          obtain ⟨bd, e, hy⟩ := Kd.at_int (Kd.R_reads' hv).2.2 0 (by omega) (by simp)
          cases e
          rw [show ((0 : Int)).toNat = 0 from rfl, Addr.add_zero', show rd [n] 0 = n from rfl] at hy
          by_cases h4 : 4 < a
          · have hd : decide (4 < a) = true := decide_eq_true h4
            clear hz hb2 hx hv hal hin
            go_wp2
            refine bodyPost_ret (v := .agg #[.int .i64 0, .int .i64 0, .slice none 0 0]) (by simp [results, Try.results126, go_sem, *]) rfl ⟨.slice none 0 0, ?_, ?_, ?_⟩
            · rw [← HPR.out, if_neg ha, HM.out, tailP, if_neg (fun h => by omega)]
            · rw [← HPR.out, if_neg ha, HM.out, tailP, if_neg (fun h => by omega)]; exact Kd.R_nil _ _ _ _ _
            · repeat (first | (with_reducible exact HB2.out) | (refine below_set ?_ (Nat.le_refl _)))
          have hd : decide (4 < a) = false := decide_eq_false h4
          by_cases h40 : 40 < n
          · have hd2 : decide (40 < n) = true := decide_eq_true h40
            clear hz hb2 hx hv hal hin
            go_wp2
            refine bodyPost_ret (v := .agg #[.int .i64 0, .int .i64 0, .slice none 0 0]) (by simp [results, Try.results126, go_sem, *]) rfl ⟨.slice none 0 0, ?_, ?_, ?_⟩
            · rw [← HPR.out, if_neg ha, HM.out, tailP, if_neg (fun h => by omega)]
            · rw [← HPR.out, if_neg ha, HM.out, tailP, if_neg (fun h => by omega)]; exact Kd.R_nil _ _ _ _ _
            · repeat (first | (with_reducible exact HB2.out) | (refine below_set ?_ (Nat.le_refl _)))
          have hd2 : decide (40 < n) = false := decide_eq_false h40
          have hwa : wrap64 a = a := wB3 a HBD.out.1 (by omega)
          have hwn : wrap64 n = n := wB3 n hn.1 (by omega)
          have HH := Aside0.mk (And.intro (show a ≤ 4 by omega) (show n ≤ 40 by omega))
          clear hz hb2 hx hv hal hin
          go_wp2
          have HB3 := Aside0.mk (below_drew1 HB2.out)
          have g0 : w2.drew.cell? ⟨W.heap.size, 0, none⟩ = some (.int .i64 0) := z0
          have g1 : w2.drew.cell? ⟨W.heap.size, 1, none⟩ = some (.int .i64 0) := z1
          have g2 : w2.drew.cell? ⟨W.heap.size, 2, none⟩ = some (.slice none 0 0) := z2
          have g3 : w2.drew.cell? ad = some (.int .u64 a) := hx2
          have g4 : w2.drew.cell? bd = some (.int .u64 n) := hy
          have q0 : w2.drew.frozen? ⟨W.heap.size, 0, none⟩ = false := f0
          have q1 : w2.drew.frozen? ⟨W.heap.size, 1, none⟩ = false := f1
          have q2 : w2.drew.frozen? ⟨W.heap.size, 2, none⟩ = false := f2
          clear z0 z1 z2 f0 f1 f2 hx2 hy
          refine wp_region_still_tail 9 (by kernel_rfl) (by kernel_rfl) ?_
          simp only [List.take_succ_cons, List.take_zero, List.drop_succ_cons, List.drop_zero]
          change wpStill _ _ w2.drew (fun a' => wpList _ _ _ _ a' w2.drew) _ _
          generalize w2.drew = w3 at g0 g1 g2 g3 g4 q0 q1 q2 HB3 ⊢
          iterate 9 still_step
          refine wpStill_nil ?_
          go_wp2
          refine bodyPost_ret (v := .agg #[.int .i64 a, .int .i64 n, .slice none 0 0]) (by simp [results, Try.results126, go_sem, *]) rfl ⟨.slice none 0 0, ?_, ?_, ?_⟩
          · rw [← HPR.out, if_neg ha, HM.out, tailP, if_pos HH.out]
          · rw [← HPR.out, if_neg ha, HM.out, tailP, if_pos HH.out]; exact Kd.R_nil _ _ _ _ _
          · repeat (first | (with_reducible exact HB3.out) | (refine below_set ?_ (Nat.le_refl _)))
end Go.Proofs.Ytppfkbigeknedaa.Q
