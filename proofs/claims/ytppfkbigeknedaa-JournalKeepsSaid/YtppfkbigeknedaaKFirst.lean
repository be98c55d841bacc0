/- journal.first, by hand. -/
import Derived.Test.YtppfkbigeknedaaKEntry
namespace Go.Proofs.Ytppfkbigeknedaa.Q
open Go.RowKit Go.Proofs.YtppfkbigeknedaaW.PrintWords Go.Proofs.YtppfkbigeknedaaW.PrintLast Go.Proofs.YtppfkbigeknedaaW.PrintMore
set_option linter.unusedVariables false
set_option linter.unusedSimpArgs false
set_option maxRecDepth 100000
attribute [local go_sem] eqe_ii eqe_nn eqe_ni eqe_nni
theorem toMoves_ok : ∀ (n : Nat) (r : List Int), r.length = 4 * n → (∀ x ∈ r, 0 ≤ x) → r.all (fun n => decide (n ≤ 2147483647)) = true → (toMoves r).all okMove = true
  | 0, r, h, _, _ => by
    have : r = [] := List.eq_nil_of_length_eq_zero (by omega)
    subst this
    rfl
  | n + 1, a :: b :: c :: d :: r, h, h0, h1 => by
    simp only [List.length_cons] at h
    simp only [List.all_cons, Bool.and_eq_true, decide_eq_true_eq] at h1
    simp only [toMoves, List.all_cons, Bool.and_eq_true]
    refine ⟨(okMove_iff _).2 ⟨⟨h0 a (by simp), h1.1⟩, ⟨h0 b (by simp), h1.2.1⟩, ⟨h0 c (by simp), h1.2.2.1⟩, ⟨h0 d (by simp), h1.2.2.2.1⟩⟩, ?_⟩
    exact toMoves_ok n r (by omega) (fun x hx => h0 x (by simp [hx])) h1.2.2.2.2
theorem readMoves_ok (b : List Int) (hb : Bytes b) (m : List S130) (h : readMovesL b = some m) : m.length ≤ 40 ∧ m.all okMove = true := by
  unfold readMovesL at h
  obtain ⟨ns, h1, h2⟩ := Option.bind_eq_some_iff.1 h
  have hin := allL_in b hb ns h1
  match ns, hin, h2 with
  | c :: r, hin, h2 =>
    rw [movesOf] at h2
    split at h2
    · next hc =>
      simp only [Option.some.injEq] at h2
      subst h2
      have hlen : r.length = 4 * c.toNat := by omega
      exact ⟨by rw [toMoves_len c.toNat r hlen]; omega, toMoves_ok c.toNat r hlen (fun x hx => (hin.2 x (List.mem_cons_of_mem _ hx)).1) hc.2.2⟩
    · cases h2
theorem entry_empty : entryL 0 0 [] = [] := by simp [entryL]
theorem readE_prog (b : List Int) (hb : Bytes b) : readE b = if entryL (progRead b).f0 (progRead b).f1 (progRead b).f2 = [] then none else some (progRead b) := by
  unfold readE progRead
  cases ho : oneG 9 b with
  | none => simp [entry_empty]
  | some p =>
    obtain ⟨a, l⟩ := p
    simp only [Option.bind_some]
    by_cases ha : a = 1
    · simp only [if_pos ha]
      cases hm : readMovesL (b.drop l) with
      | none => simp [movesP, entry_empty]
      | some m =>
        have hok := readMoves_ok _ (hb.drop l) m hm
        have he : entryL 1 0 m ≠ [] := by
          unfold entryL
          rw [if_pos ⟨rfl, rfl⟩, if_pos hok]
          simp
        exact (if_neg he).symm
    · simp only [if_neg ha]
      cases hal : allL (b.drop l) with
      | none => simp [tailP, entry_empty]
      | some ns =>
        match ns with
        | [] => simp [tailP, tailE, entry_empty]
        | _ :: _ :: _ => simp [tailP, tailE, entry_empty]
        | [n] =>
          simp only [Option.bind_some, tailE, tailP]
          by_cases h1 : a ≤ 4 ∧ n ≤ 40
          · simp only [if_pos h1]
            have he : entryL a n [] = (if 2 ≤ a ∧ a ≤ 4 ∧ 1 ≤ n ∧ n ≤ 40 ∧ ([] : List S130) = [] then [a, n] else []) := by
              unfold entryL
              rw [if_neg (fun h => ha h.1)]
            by_cases h2 : 2 ≤ a ∧ 1 ≤ n
            · rw [if_pos ⟨h2.1, h1.1, h2.2, h1.2, rfl⟩] at he
              rw [if_pos ⟨h2.1, h1.1, h2.2, h1.2⟩]
              exact (if_neg (by rw [he]; simp)).symm
            · rw [if_neg (fun h => h2 ⟨h.1, h.2.2.1⟩)] at he
              rw [if_neg (fun h => h2 ⟨h.1, h.2.2.1⟩)]
              exact (if_pos he).symm
          · simp only [if_neg h1, entry_empty, if_true]
            rw [if_neg (fun h => h1 ⟨h.2.1, h.2.2.2⟩)]
def fRes (b : List Int) : S60 × Nat := (firstL b).getD (⟨0, 0, []⟩, 0)
theorem fRes_none (b : List Int) (h : oneG 9 b = none) : fRes b = (⟨0, 0, []⟩, 0) := by
  unfold fRes firstL
  rw [h]
  rfl
theorem fRes_far (b : List Int) (n : Int) (l : Nat) (h : oneG 9 b = some (n, l)) (hn : ¬ n ≤ (b.length : Int) - l) : fRes b = (⟨0, 0, []⟩, 0) := by
  unfold fRes firstL
  rw [h, Option.bind_some, if_neg hn]
  rfl
theorem fRes_in (b : List Int) (hb : Bytes b) (n l : Nat) (h : oneG 9 b = some ((n : Int), l)) (hn : (n : Int) ≤ (b.length : Int) - l) :
    fRes b = if entryL (progRead ((b.take (l + n)).drop l)).f0 (progRead ((b.take (l + n)).drop l)).f1 (progRead ((b.take (l + n)).drop l)).f2 = [] then (⟨0, 0, []⟩, 0) else (progRead ((b.take (l + n)).drop l), l + n) := by
  have e : (b.take (l + n)).drop l = (b.drop l).take n := by rw [List.drop_take, Nat.add_sub_cancel_left]
  unfold fRes firstL
  rw [h, Option.bind_some, if_pos hn, e]
  simp only [Int.toNat_natCast]
  rw [readE_prog _ ((hb.drop l).take n)]
  split <;> rfl
theorem wD (n l : Nat) (h : l ≤ n) (hn : n ≤ 1000000) : IntKind.u64.wrap (wrap64 ((n : Int) - (l : Int))) = ((n - l : Nat) : Int) := by
  rw [wB1 n l h hn, wB2 _ (by omega)]
set_option maxHeartbeats 8000000 in
theorem first_calls {W : World} {A : Option Addr} {c : Nat} {b : List Int} (hr : Kd.C (Kd.int .u8) W A b.length b) (hc : b.length ≤ c) (hb : Bytes b) (hl : b.length ≤ 1000000) :
    Calls Try.prog 98 #[.slice A b.length c] W fun e w' => ∃ v, e = .returned (.tuple #[.agg #[.int .i64 (fRes b).1.f0, .int .i64 (fRes b).1.f1, v], .int .i64 ((fRes b).2 : Int)]) ∧ k130.R 130 w' W.heap.size (fun _ => True) v (fRes b).1.f2 ∧ Below W.heap.size W w' := by
  have HC := Aside0.mk hr
  have HCC := Aside0.mk hc
  have HBY := Aside0.mk hb
  have HL := Aside0.mk hl
  cases ho : oneG 9 b with
  | none =>
    have HG := Aside0.mk (fun (w' : World) (hw : Below W.heap.size W w') => get_none (c := c) (Kd.C_below HC.out hw) HCC.out HBY.out HL.out ho)
    rw [fRes_none b ho]
    clear ho hr hc hb hl
    simp only
    go_enter Try.func98, Try.ntmps98
    go_wp2_with fail
    refine (HG.out _ (below_alloc (Below.refl _ _) _)).mono ?_
    rintro e w1 ⟨p, rfl, hb1⟩
    have hz := blk_below (cell60 W 0 0 (.slice none 0 0)) hb1
    have z0 : w1.cell? ⟨W.heap.size, 0, none⟩ = some (.int .i64 0) := (blk_cell hz 0).trans rfl
    have z1 : w1.cell? ⟨W.heap.size, 1, none⟩ = some (.int .i64 0) := (blk_cell hz 1).trans rfl
    have z2 : w1.cell? ⟨W.heap.size, 2, none⟩ = some (.slice none 0 0) := (blk_cell hz 2).trans rfl
    have f0 := blk_frozen hz 0
    have f1 := blk_frozen hz 1
    have f2 := blk_frozen hz 2
    have HB := Aside0.mk (below_then (below_alloc (Below.refl W.heap.size W) (.cells #[.int .i64 0, .int .i64 0, .slice none 0 0] 60)) (by simp) hb1)
    clear hb1 hz
    go_wp2
    refine bodyPost_ret (v := .tuple #[.agg #[.int .i64 0, .int .i64 0, .slice none 0 0], .int .i64 0]) (by simp [results, Try.results98, go_sem, *]) rfl ⟨_, rfl, Kd.R_nil _ _ _ _ _, ?_⟩
    repeat (first | (with_reducible exact HB.out) | (refine below_set ?_ (Nat.le_refl _)))
  | some p =>
    obtain ⟨a, l⟩ := p
    have hbd := one9 b HBY.out a l ho
    have HG := Aside0.mk (fun (w' : World) (hw : Below W.heap.size W w') => get_some (c := c) (Kd.C_below HC.out hw) HCC.out HBY.out HL.out ho)
    by_cases hn : a ≤ (b.length : Int) - l
    · obtain ⟨n, rfl⟩ : ∃ n : Nat, a = (n : Int) := ⟨a.toNat, by omega⟩
      have hres := fRes_in b HBY.out n l ho hn
      obtain ⟨A', hcut, hcl, hcC⟩ := mid_u8 A c b l (l + n) (by omega) (by omega) HCC.out
      have hml : ((b.take (l + n)).drop l).length ≤ 1000000 := by rw [List.length_drop, List.length_take]; omega
      have hmb : Bytes ((b.take (l + n)).drop l) := (HBY.out.take (l + n)).drop l
      obtain ⟨b2, hb2⟩ : ∃ b2, (b.take (l + n)).drop l = b2 := ⟨_, rfl⟩
      rw [hb2] at hcut hcl hcC hml hmb hres
      have HCL := Aside0.mk hcl
      have HCC2 := Aside0.mk hcC
      have HML := Aside0.mk hml
      have HMB := Aside0.mk hmb
      have HP := Aside0.mk (may_ev (progRead b2).f0 (progRead b2).f1 (progRead b2).f2).rounds
      obtain ⟨pr, hpr⟩ : ∃ pr, progRead b2 = pr := ⟨_, rfl⟩
      have HPR := Aside0.mk hpr
      rw [hpr] at hres HP
      obtain ⟨fr, hfr⟩ : ∃ fr, fRes b = fr := ⟨_, rfl⟩
      rw [hfr] at hres ⊢
      have HRES := Aside0.mk hres
      have hwd := wD b.length l hbd.2.2.2 hl
      have hwa := wA l n (by omega)
      have hlt : decide (((b.length - l : Nat) : Int) < (n : Int)) = false := decide_eq_false (by omega)
      have hlt2 : decide (b.length - l < n) = false := decide_eq_false (by omega)
      have hlt3 : n ≤ b.length - l := by omega
      have hwn : wrap64 (n : Int) = (n : Int) := wC (n : Int) (by omega) (by omega)
      rw [show ((l + n : Nat) : Int) = (l : Int) + (n : Int) by omega] at hcut hwa
      clear ho hr hc hb hl hbd hn hcl hcC hml hmb hb2 hpr hfr hres
      go_enter Try.func98, Try.ntmps98
      go_wp2_with fail
      refine (HG.out _ (below_alloc (Below.refl _ _) _)).mono ?_
      rintro e w1 ⟨v1, rfl, hv1, hb1⟩
      obtain ⟨A1, c1, rfl⟩ := Kd.R_slice hv1
      obtain ⟨ad, e, hx⟩ := Kd.at_int (Kd.R_reads' hv1).2.2 0 (by omega) (by simp)
      cases e
      rw [show ((0 : Int)).toNat = 0 from rfl, Addr.add_zero', show rd [(n : Int)] 0 = (n : Int) from rfl] at hx
      have HZ := Aside0.mk (blk_below (cell60 W 0 0 (.slice none 0 0)) hb1)
      have HB := Aside0.mk (below_then (below_alloc (Below.refl W.heap.size W) (.cells #[.int .i64 0, .int .i64 0, .slice none 0 0] 60)) (by simp) hb1)
      clear hb1 hv1
      go_wp2_with fail
      refine (read_calls (c := c - l) (HCC2.out _ (Kd.C_below HC.out HB.out)) HCL.out HMB.out HML.out).mono ?_
      rintro e w2 ⟨v2, rfl, hv2, hb2⟩
      rw [HPR.out] at hv2 ⊢
      obtain ⟨A2, c2, rfl⟩ := Kd.R_slice hv2
      have HV2 := Aside0.mk (Kd.R_lower (base' := W.heap.size) hv2 (below_size HB.out))
      have HZ2 := Aside0.mk (blk_below HZ.out hb2)
      have HB2 := Aside0.mk (below_step HB.out hb2)
      clear hv2 hb2 HZ HB hx
      go_wp2_with fail
      obtain ⟨k, hk⟩ := HP.out
      have HRD := Aside0.mk (Kd.R_reads' (Kd.R_alloc HV2.out (.cells #[.int .i64 pr.f0, .int .i64 pr.f1, .slice A2 pr.f2.length c2] 60)))
      refine (journal_May.calls k pr.f0 pr.f1 A2 c2 pr.f2 _ _ HRD.out.2.2 HRD.out.2.1 hk).mono ?_
      rintro e w3 ⟨rfl, hb3⟩
      have HV3 := Aside0.mk (Kd.R_below (Kd.R_alloc HV2.out (.cells #[.int .i64 pr.f0, .int .i64 pr.f1, .slice A2 pr.f2.length c2] 60)) hb3)
      have hz := blk_below (blk_below HZ2.out (below_alloc (Below.refl _ _) (.cells #[.int .i64 pr.f0, .int .i64 pr.f1, .slice A2 pr.f2.length c2] 60))) hb3
      have hy := blk_below (cell60 w2 pr.f0 pr.f1 (.slice A2 pr.f2.length c2)) hb3
      have HZ3 := Aside0.mk hz
      have HB3 := Aside0.mk (below_step (below_alloc HB2.out (.cells #[.int .i64 pr.f0, .int .i64 pr.f1, .slice A2 pr.f2.length c2] 60)) hb3)
      have z0 : w3.cell? ⟨W.heap.size, 0, none⟩ = some (.int .i64 0) := (blk_cell hz 0).trans rfl
      have z1 : w3.cell? ⟨W.heap.size, 1, none⟩ = some (.int .i64 0) := (blk_cell hz 1).trans rfl
      have z2 : w3.cell? ⟨W.heap.size, 2, none⟩ = some (.slice none 0 0) := (blk_cell hz 2).trans rfl
      have f0 := blk_frozen hz 0
      have f1 := blk_frozen hz 1
      have f2 := blk_frozen hz 2
      have y0 : w3.cell? ⟨w2.heap.size, 0, none⟩ = some (.int .i64 pr.f0) := (blk_cell hy 0).trans rfl
      have y1 : w3.cell? ⟨w2.heap.size, 1, none⟩ = some (.int .i64 pr.f1) := (blk_cell hy 1).trans rfl
      have y2 : w3.cell? ⟨w2.heap.size, 2, none⟩ = some (.slice A2 pr.f2.length c2) := (blk_cell hy 2).trans rfl
      clear hz hy hb3 hk HRD HV2 HZ2 HB2
      by_cases he : entryL pr.f0 pr.f1 pr.f2 = []
      · have hd : decide (((entryL pr.f0 pr.f1 pr.f2).length : Int) > 0) = false := decide_eq_false (by rw [he]; simp)
        rw [hd]
        have hres := HRES.out
        rw [if_pos he] at hres
        have HRES2 := Aside0.mk hres
        clear hd hres he HRES
        go_wp2
        refine bodyPost_ret (v := .tuple #[.agg #[.int .i64 0, .int .i64 0, .slice none 0 0], .int .i64 0]) (by simp [results, Try.results98, go_sem, *]) rfl ⟨.slice none 0 0, ?_, ?_, ?_⟩
        · rw [HRES2.out]; rfl
        · rw [HRES2.out]; exact Kd.R_nil _ _ _ _ _
        · repeat (first | (with_reducible exact HB3.out) | (refine below_set ?_ (Nat.le_refl _)))
      · have hd : decide (((entryL pr.f0 pr.f1 pr.f2).length : Int) > 0) = true := decide_eq_true (by have := List.length_pos_iff.2 he; omega)
        rw [hd]
        have hres := HRES.out
        rw [if_neg he] at hres
        have HRES2 := Aside0.mk hres
        have hw : wrap64 ((l : Int) + (n : Int)) = (l : Int) + (n : Int) := hwa
        clear hd hres he HRES
        go_wp2
        refine bodyPost_ret (v := .tuple #[.agg #[.int .i64 pr.f0, .int .i64 pr.f1, .slice A2 pr.f2.length c2], .int .i64 ((l : Int) + (n : Int))]) (by simp [results, Try.results98, go_sem, *]) rfl ⟨.slice A2 pr.f2.length c2, ?_, ?_, ?_⟩
        · rw [HRES2.out]; simp
        · rw [HRES2.out]
          exact Kd.R_mono (Kd.R_far (Kd.R_far (Kd.R_far (Kd.R_types HV3.out HZ3.out (by decide)) (fun k hk => hk.2) _) (fun k hk => hk.2) _) (fun k hk => hk.2) _) (fun _ _ => trivial)
        · repeat (first | (with_reducible exact HB3.out) | (refine below_set ?_ (Nat.le_refl _)))
    · have hres := fRes_far b a l ho hn
      have hwd := wD b.length l hbd.2.2.2 hl
      have hlt : decide (((b.length - l : Nat) : Int) < a) = true := decide_eq_true (by omega)
      rw [hres]
      clear ho hr hc hb hl hbd hn hres
      simp only
      go_enter Try.func98, Try.ntmps98
      go_wp2_with fail
      refine (HG.out _ (below_alloc (Below.refl _ _) _)).mono ?_
      rintro e w1 ⟨v1, rfl, hv1, hb1⟩
      obtain ⟨A1, c1, rfl⟩ := Kd.R_slice hv1
      obtain ⟨ad, e, hx⟩ := Kd.at_int (Kd.R_reads' hv1).2.2 0 (by omega) (by simp)
      cases e
      rw [show ((0 : Int)).toNat = 0 from rfl, Addr.add_zero', show rd [a] 0 = a from rfl] at hx
      have hz := blk_below (cell60 W 0 0 (.slice none 0 0)) hb1
      have z0 : w1.cell? ⟨W.heap.size, 0, none⟩ = some (.int .i64 0) := (blk_cell hz 0).trans rfl
      have z1 : w1.cell? ⟨W.heap.size, 1, none⟩ = some (.int .i64 0) := (blk_cell hz 1).trans rfl
      have z2 : w1.cell? ⟨W.heap.size, 2, none⟩ = some (.slice none 0 0) := (blk_cell hz 2).trans rfl
      have f0 := blk_frozen hz 0
      have f1 := blk_frozen hz 1
      have f2 := blk_frozen hz 2
      have HB := Aside0.mk (below_then (below_alloc (Below.refl W.heap.size W) (.cells #[.int .i64 0, .int .i64 0, .slice none 0 0] 60)) (by simp) hb1)
      clear hb1 hv1 hz
      go_wp2
      refine bodyPost_ret (v := .tuple #[.agg #[.int .i64 0, .int .i64 0, .slice none 0 0], .int .i64 0]) (by simp [results, Try.results98, go_sem, *]) rfl ⟨_, rfl, Kd.R_nil _ _ _ _ _, ?_⟩
      repeat (first | (with_reducible exact HB.out) | (refine below_set ?_ (Nat.le_refl _)))
end Go.Proofs.Ytppfkbigeknedaa.Q
