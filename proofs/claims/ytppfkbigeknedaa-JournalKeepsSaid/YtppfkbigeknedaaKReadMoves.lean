/- codec.begin and codec.ReadMoves, by hand. -/
import Derived.Test.YtppfkbigeknedaaKWire
import Derived.Test.YtppfkbigeknedaaKReader
namespace Go.Proofs.Ytppfkbigeknedaa.Q
open Go.RowKit Go.Proofs.YtppfkbigeknedaaW.PrintWords Go.Proofs.YtppfkbigeknedaaW.PrintLast Go.Proofs.YtppfkbigeknedaaW.PrintMore
set_option linter.unusedVariables false
set_option linter.unusedSimpArgs false
set_option maxRecDepth 100000
attribute [local go_sem] eqe_ii eqe_nn eqe_ni eqe_nni
theorem wB3 (n : Int) (h0 : 0 ≤ n) (h1 : n ≤ 40) : wrap64 n = n := by unfold wrap64; omega
def badHead : Option (List Int) → Prop
  | none => True
  | some [] => True
  | some (c :: _) => 40 < c
set_option maxHeartbeats 8000000 in
theorem begin_calls {W : World} {A B : Option Addr} {c d : Nat} {b : List Int} (hr : Kd.C (Kd.int .u8) W A b.length b) (hc : b.length ≤ c) (hb : Bytes b) (hl : b.length ≤ 1000000) (hm : Kd.C (Kd.int .u64) W B 1 [40]) :
    Calls Try.prog 153 #[.slice A b.length c, .int .i64 0, .slice B 1 d] W fun e w' => Below W.heap.size W w' ∧ ((badHead (allL b) ∧ ∃ t p, e = .returned (.tuple #[.pointer none, .slice none 0 0, .iface t p])) ∨
      ∃ g v v2 n r, allL b = some (n :: r) ∧ n ≤ 40 ∧ e = .returned (.tuple #[.pointer (some ⟨g, 0, none⟩), v2, .nilIface]) ∧ IsRd W.heap.size g w' r false v ∧ Kd.R (Kd.int .i64) 3 w' W.heap.size (fun _ => True) v2 [n]) := by
  have HA := Aside0.mk (all_calls (c := c) hr hc hb hl)
  have HIN := Aside0.mk (allL_in b hb)
  have HM := Aside0.mk hm
  clear hr hc hb hl hm
  go_enter Try.func153, Try.ntmps153
  go_wp2_with fail
  refine HA.out.mono ?_
  rintro e w1 ⟨hb1, hcase⟩
  have HB := Aside0.mk hb1
  clear hb1 HA
  rcases hcase with ⟨p, hal, rfl⟩ | ⟨v, ns, hal, rfl, hv⟩
  · have HAL := Aside0.mk hal
    clear hal
    go_wp2
    go_ret3
    refine ⟨HB.out, Or.inl ⟨by rw [HAL.out]; trivial, _, _, rfl⟩⟩
  obtain ⟨A1, c1, rfl⟩ := Kd.R_slice hv
  have HV := Aside0.mk hv
  have HAL := Aside0.mk hal
  clear hv hal
  cases ns with
  | nil =>
    go_wp2
    go_ret3
    exact ⟨by repeat (first | (with_reducible exact HB.out) | apply below_alloc | apply pw_below_drewN | apply below_drew1), Or.inl ⟨by rw [HAL.out]; trivial, _, _, rfl⟩⟩
  | cons n r =>
    have hlen : (n :: r).length = r.length + 1 := rfl
    have hln := (HIN.out _ HAL.out)
    have hn := hln.2 n (by simp)
    have hb0 : ¬ ((r.length : Int) + 1 < 1) := by omega
    have hb1 : decide (((r.length + 1 : Nat) : Int) < 1) = false := decide_eq_false (by omega)
    obtain ⟨ad, e, hx⟩ := Kd.at_int (Kd.R_reads' HV.out).2.2 0 (by omega) (by simp only [List.length_cons]; omega)
    cases e
    rw [show ((0 : Int)).toNat = 0 from rfl, Addr.add_zero', show rd (n :: r) 0 = n from rfl] at hx
    have HX := Aside0.mk hx
    have HN := Aside0.mk hn
    clear hln hx hn
    go_wp2
    go_loopw [11, 32] (fun v11 v32 w' => ∃ (zs : List Int) (i : Nat), v32 = .int .i64 (i : Int) ∧ (zs = [] ∧ i = 0 ∨ zs = [n] ∧ i = 1 ∧ n ≤ 40) ∧ Aside0 (Kd.R (Kd.int .i64) 3 w' W.heap.size (fun _ => True) v11 zs) ∧ Aside0 (Kd.R (Kd.int .u64) 31 w' W.heap.size (fun _ => True) (.slice (some ad) (n :: r).length c1) (n :: r)) ∧ Aside0 (Below W.heap.size W w')) (fun _ v32 _ => 1 - (intOf v32).toNat)
    case atStart => exact ⟨[], 0, rfl, Or.inl ⟨rfl, rfl⟩, ⟨Kd.R_nil _ _ _ _ _⟩, HV, HB⟩
    case round =>
      clear HV HB HX
      obtain ⟨zs, i, rfl, hz, HO, HV, HB⟩ := hrel
      obtain ⟨A2, c2, rfl⟩ := Kd.R_slice HO.out
      rcases hz with ⟨rfl, rfl⟩ | ⟨rfl, rfl, h40⟩
      · obtain ⟨ad', e', hx⟩ := Kd.at_int (Kd.R_reads' HV.out).2.2 0 (by omega) (by simp only [List.length_cons]; omega)
        cases e'
        rw [show ((0 : Int)).toNat = 0 from rfl, Addr.add_zero', show rd (n :: r) 0 = n from rfl] at hx
        obtain ⟨bd, e', hx2⟩ := Kd.at_int (Kd.C_below HM.out HB.out) 0 (by omega) (by omega)
        cases e'
        rw [show ((0 : Int)).toNat = 0 from rfl, Addr.add_zero', show rd [40] 0 = 40 from rfl] at hx2
        by_cases hn : 40 < n
        · have hd : decide (40 < n) = true := decide_eq_true hn
          go_wp2
          go_ret3
          exact ⟨by repeat (first | (with_reducible exact HB.out) | apply below_alloc | apply pw_below_drewN | apply below_drew1), Or.inl ⟨by rw [HAL.out]; exact hn, _, _, rfl⟩⟩
        · have hd : decide (40 < n) = false := decide_eq_false hn
          have hw : wrap64 n = n := wB3 n HN.out.1 (by omega)
          have HW := Aside0.mk hw
          clear hw
          go_wp2_with (first | ((with_reducible refine gate_builtin (b := .append) (xs := #[.tmp 44, .tmp 50]) rfl ?_); at_builtin; refine Kd.R_append (Kd.int .i64) (w0 := W) W.heap.size rfl (.tmp 44) (.tmp 50) 71 3 (.int .i64 0) 8 rfl Try.underlying71 info3 rfl (by decide) (by omega) (.slice A2 0 c2) [] (wrap64 n) [.int .i64 (wrap64 n)] (fun _ => True) (fun _ => False) rfl rfl ?aP (fun _ hk => hk.elim) ?aF ?aO ?aB ?aS ?aL ?_; (case aP => exact rfl); (case aB => exact HB.out); (case aF => exact fun _ _ => trivial); (case aO => exact HO.out); (case aS => exact below_size HB.out); (case aL => simp); intro v1 w1 ho hb hg hat; have HV2 := Aside0.mk (Kd.R_over HV.out HO.out (by decide) hg); obtain ⟨A3, c3, rfl⟩ := Kd.R_slice ho; have HR3 := Aside0.mk ho; have HB3 := Aside0.mk hb; clear ho hb hg hat))
          go_roundw
          case measure => simp [intOf]
          case rel =>
            have hq := HR3.out
            rw [HW.out] at hq
            exact ⟨[n], 1, by simp, Or.inr ⟨rfl, rfl, by omega⟩, ⟨hq⟩, HV2, HB3⟩
      · obtain ⟨i31, hi31, hz⟩ := Option.map_eq_some_iff.1 info31
        have hsz : i31.size = 1 := by simp only [Prod.mk.injEq] at hz; exact hz.2.1
        have hcut := cut_from (P := Try.prog) 112 31 .i64 Try.underlying112 hi31 1 hsz (some ad) (n :: r).length c1 1 (by omega) (by simp only [List.length_cons]; omega)
        obtain ⟨A4, hA4⟩ : ∃ A4, (if c1 = (1 : Int).toNat then some ad else (some ad).map (·.add ((1 : Int).toNat * 1))) = A4 := ⟨_, rfl⟩
        rw [hA4, hlen] at hcut
        have hq := Kd.Q_drop (Kd.Q_of_R HV.out) (k := 1) (by simp)
        rw [show ((if c1 = 1 then some ad else (some ad).map (fun x => x.add (1 * (Kd.int .u64).sz))) : Option Addr) = A4 from hA4, show (n :: r).length - 1 = r.length from rfl, show (n :: r).drop 1 = r from rfl] at hq
        have HQ := Aside0.mk hq
        clear hq hz hsz hi31 hA4
        go_wp2_with (first | ((with_reducible refine gate_dst (N := 58) rfl ?_); refine box_event ?hg (N := 58) ?hd (cs := #[.slice A4 r.length (c1 - 1), .bool false]) (t := 235) ?hr ?_; (case hd => rfl); (case hg => rfl); (case hr => first | (go_simp; done) | (go_simp; rfl)); intro g hg w9 hbox hb; have HG := Aside0.mk hg; have HBX := Aside0.mk hbox; have HB9 := Aside0.mk (hb); clear hg hbox hb))
        go_ret3
        have hS : W.heap.size ≤ g := by rw [HG.out]; exact below_size HB.out
        exact ⟨below_then HB.out (below_size HB.out) HB9.out, Or.inr ⟨g, _, _, n, r, HAL.out, h40, rfl, ⟨HBX.out, hS, Kd.Q_below HQ.out HB9.out⟩, Kd.R_below HO.out HB9.out⟩⟩
def step4 (xs : List Int) (bad : Bool) : S130 × List Int × Bool :=
  (⟨(stepI xs bad).1, (stepI (stepI xs bad).2.1 (stepI xs bad).2.2).1, (stepI (stepI (stepI xs bad).2.1 (stepI xs bad).2.2).2.1 (stepI (stepI xs bad).2.1 (stepI xs bad).2.2).2.2).1,
    (stepI (stepI (stepI (stepI xs bad).2.1 (stepI xs bad).2.2).2.1 (stepI (stepI xs bad).2.1 (stepI xs bad).2.2).2.2).2.1 (stepI (stepI (stepI xs bad).2.1 (stepI xs bad).2.2).2.1 (stepI (stepI xs bad).2.1 (stepI xs bad).2.2).2.2).2.2).1⟩,
   (stepI (stepI (stepI (stepI xs bad).2.1 (stepI xs bad).2.2).2.1 (stepI (stepI xs bad).2.1 (stepI xs bad).2.2).2.2).2.1 (stepI (stepI (stepI xs bad).2.1 (stepI xs bad).2.2).2.1 (stepI (stepI xs bad).2.1 (stepI xs bad).2.2).2.2).2.2).2.1,
   (stepI (stepI (stepI (stepI xs bad).2.1 (stepI xs bad).2.2).2.1 (stepI (stepI xs bad).2.1 (stepI xs bad).2.2).2.2).2.1 (stepI (stepI (stepI xs bad).2.1 (stepI xs bad).2.2).2.1 (stepI (stepI xs bad).2.1 (stepI xs bad).2.2).2.2).2.2).2.2)
def loopM : Nat → List Int → Bool → List S130 → List S130 × List Int × Bool
  | 0, xs, bad, acc => (acc, xs, bad)
  | m + 1, xs, bad, acc => loopM m (step4 xs bad).2.1 (step4 xs bad).2.2 (acc ++ [(step4 xs bad).1])
theorem stepI_bad (xs : List Int) : (stepI xs true).2.2 = true := by simp [stepI]
theorem step4_bad (xs : List Int) : (step4 xs true).2.2 = true := by
  have h1 := stepI_bad xs
  have h2 := stepI_bad (stepI xs true).2.1
  rw [← h1] at h2
  simp only [step4, h1]
  rw [stepI_bad, stepI_bad, stepI_bad]
theorem loopM_bad : ∀ (m : Nat) (xs : List Int) (acc : List S130), (loopM m xs true acc).2.2 = true
  | 0, xs, acc => rfl
  | m + 1, xs, acc => by
    unfold loopM
    rw [step4_bad]
    exact loopM_bad m _ _
theorem stepI_cons (x : Int) (r : List Int) (h : x ≤ 2147483647) : stepI (x :: r) false = (x, r, false) := by
  simp [stepI, h]
theorem stepI_big (x : Int) (r : List Int) (h : ¬ x ≤ 2147483647) : (stepI (x :: r) false).2.2 = true := by
  simp [stepI]; omega
theorem stepI_nil : (stepI [] false).2.2 = true := by simp [stepI]
theorem step4_fine (a b c d : Int) (r : List Int) (ha : a ≤ 2147483647) (hb : b ≤ 2147483647) (hc : c ≤ 2147483647) (hd : d ≤ 2147483647) : step4 (a :: b :: c :: d :: r) false = (⟨a, b, c, d⟩, r, false) := by
  simp only [step4, stepI_cons _ _ ha, stepI_cons _ _ hb, stepI_cons _ _ hc, stepI_cons _ _ hd]
def fourOk (xs : List Int) : Bool := decide (4 ≤ xs.length) && (xs.take 4).all (fun n => decide (n ≤ 2147483647))
theorem step4_not (xs : List Int) (h : fourOk xs = false) : (step4 xs false).2.2 = true := by
  match xs with
  | [] => simp only [step4, stepI_nil, stepI_bad]
  | [a] =>
    by_cases ha : a ≤ 2147483647
    · simp only [step4, stepI_cons _ _ ha, stepI_nil, stepI_bad]
    · simp only [step4, stepI_big _ _ ha, stepI_bad]
  | [a, b] =>
    by_cases ha : a ≤ 2147483647
    · by_cases hb : b ≤ 2147483647
      · simp only [step4, stepI_cons _ _ ha, stepI_cons _ _ hb, stepI_nil, stepI_bad]
      · simp only [step4, stepI_cons _ _ ha, stepI_big _ _ hb, stepI_bad]
    · simp only [step4, stepI_big _ _ ha, stepI_bad]
  | [a, b, c] =>
    by_cases ha : a ≤ 2147483647
    · by_cases hb : b ≤ 2147483647
      · by_cases hc : c ≤ 2147483647
        · simp only [step4, stepI_cons _ _ ha, stepI_cons _ _ hb, stepI_cons _ _ hc, stepI_nil, stepI_bad]
        · simp only [step4, stepI_cons _ _ ha, stepI_cons _ _ hb, stepI_big _ _ hc, stepI_bad]
      · simp only [step4, stepI_cons _ _ ha, stepI_big _ _ hb, stepI_bad]
    · simp only [step4, stepI_big _ _ ha, stepI_bad]
  | a :: b :: c :: d :: r =>
    by_cases ha : a ≤ 2147483647
    · by_cases hb : b ≤ 2147483647
      · by_cases hc : c ≤ 2147483647
        · by_cases hd : d ≤ 2147483647
          · simp [fourOk, ha, hb, hc, hd] at h
          · simp only [step4, stepI_cons _ _ ha, stepI_cons _ _ hb, stepI_cons _ _ hc, stepI_big _ _ hd]
        · simp only [step4, stepI_cons _ _ ha, stepI_cons _ _ hb, stepI_big _ _ hc, stepI_bad]
      · simp only [step4, stepI_cons _ _ ha, stepI_big _ _ hb, stepI_bad]
    · simp only [step4, stepI_big _ _ ha, stepI_bad]
theorem loopM_ok : ∀ (m : Nat) (xs : List Int) (acc : List S130), xs.length = 4 * m → xs.all (fun n => decide (n ≤ 2147483647)) = true → loopM m xs false acc = (acc ++ toMoves xs, [], false)
  | 0, xs, acc, h, _ => by
    have : xs = [] := List.eq_nil_of_length_eq_zero (by omega)
    subst this
    simp [loopM, toMoves]
  | m + 1, a :: b :: c :: d :: r, acc, h, ha => by
    simp only [List.length_cons] at h
    simp only [List.all_cons, Bool.and_eq_true, decide_eq_true_eq] at ha
    unfold loopM
    rw [step4_fine a b c d r ha.1 ha.2.1 ha.2.2.1 ha.2.2.2.1]
    simp only
    rw [loopM_ok m r _ (by omega) ha.2.2.2.2]
    simp [toMoves]
theorem loopM_no : ∀ (m : Nat) (xs : List Int) (acc : List S130), ¬ (xs.length = 4 * m ∧ xs.all (fun n => decide (n ≤ 2147483647)) = true) → (!(loopM m xs false acc).2.2 && (loopM m xs false acc).2.1.isEmpty) = false
  | 0, xs, acc, h => by
    cases xs with
    | nil => exact absurd ⟨rfl, rfl⟩ h
    | cons x r => rfl
  | m + 1, xs, acc, h => by
    by_cases hf : fourOk xs = true
    · match xs, hf, h with
      | a :: b :: c :: d :: r, hf, h =>
        simp only [fourOk, List.length_cons, List.take_succ_cons, List.take_zero, List.all_cons, List.all_nil, Bool.and_true, Bool.and_eq_true, decide_eq_true_eq] at hf
        obtain ⟨_, ha, hb, hc, hd⟩ := hf
        unfold loopM
        rw [step4_fine a b c d r ha hb hc hd]
        refine loopM_no m r _ (fun hh => h ⟨by simp only [List.length_cons]; omega, ?_⟩)
        simp only [List.all_cons, decide_eq_true ha, decide_eq_true hb, decide_eq_true hc, decide_eq_true hd, Bool.true_and]
        exact hh.2
      | [], hf, _ => simp [fourOk] at hf
      | [_], hf, _ => simp [fourOk] at hf
      | [_, _], hf, _ => simp [fourOk] at hf
      | [_, _, _], hf, _ => simp [fourOk] at hf
    · unfold loopM
      rw [step4_not xs (Bool.eq_false_iff.mpr hf), loopM_bad]
      rfl
theorem readMoves_loop (b : List Int) (n : Int) (r : List Int) (h : allL b = some (n :: r)) (h0 : 0 ≤ n) (h40 : n ≤ 40) :
    readMovesL b = if (!(loopM n.toNat r false []).2.2 && (loopM n.toNat r false []).2.1.isEmpty) = true then some (loopM n.toNat r false []).1 else none := by
  unfold readMovesL
  rw [h, Option.bind_some]
  by_cases hc : r.length = 4 * n.toNat ∧ r.all (fun n => decide (n ≤ 2147483647)) = true
  · rw [loopM_ok _ _ _ hc.1 hc.2, movesOf, if_pos ⟨h40, by omega, hc.2⟩]
    simp
  · rw [loopM_no _ _ _ hc, movesOf, if_neg (fun hh => hc ⟨by omega, hh.2.2⟩)]
    rfl
theorem readMoves_bad (b : List Int) (h : badHead (allL b)) : readMovesL b = none := by
  unfold readMovesL
  match allL b, h with
  | none, _ => rfl
  | some [], _ => rfl
  | some (c :: r), h => rw [Option.bind_some, movesOf, if_neg (fun hh => by have := hh.1; simp only [badHead] at h; omega)]
theorem stepI_in {xs : List Int} {bad : Bool} (h : ∀ n ∈ xs, 0 ≤ n) : ∀ n ∈ (stepI xs bad).2.1, 0 ≤ n := fun n hn => h n (List.mem_of_mem_tail hn)
theorem R130_over {base g : Nat} {W w' : World} {v : Value} {xs : List S130} {cells : Array Value} (h : k130.R 130 W base (fun _ => True) v xs) (hb : W.heap[g]? = some (.cells cells 235 (0, 0))) (hk : Kept W w' (fun k => k = g)) :
    k130.R 130 w' base (fun _ => True) v xs := Kd.R_mono (Kd.R_kept (Kd.R_types h hb (by decide)) hk (fun k hk => hk.2)) (fun _ _ => trivial)
set_option maxHeartbeats 8000000 in
theorem read_moves {W : World} {A : Option Addr} {c : Nat} {b : List Int} (hr : Kd.C (Kd.int .u8) W A b.length b) (hc : b.length ≤ c) (hb : Bytes b) (hl : b.length ≤ 1000000) :
    Calls Try.prog 142 #[.slice A b.length c] W fun e w' => Below W.heap.size W w' ∧ ((readMovesL b = none ∧ ∃ t p, e = .returned (.tuple #[.slice none 0 0, .iface t p])) ∨
      ∃ v m, readMovesL b = some m ∧ e = .returned (.tuple #[v, .nilIface]) ∧ k130.R 130 w' W.heap.size (fun _ => True) v m) := by
  have hlit : Kd.R (Kd.int .u64) 31 (W.alloc (.cells #[.int .u64 40] 31)) W.heap.size (fun _ => True) (.slice (some ⟨W.heap.size, 0, none⟩) 1 1) [40] := Kd.R_of_own (own_lit W W.heap.size 31 .u64 [40] (Nat.le_refl _) (by decide)) (fun _ _ => trivial)
  have HCALL := Aside0.mk (begin_calls (c := c) (d := 1) (Kd.C_alloc hr (.cells #[.int .u64 40] 31)) hc hb hl (Kd.R_reads' hlit).2.2)
  have HIN := Aside0.mk (allL_in b hb)
  clear hr hc hb hl hlit
  go_enter Try.func142, Try.ntmps142
  go_wp2_with fail
  refine HCALL.out.mono ?_
  rintro e w1 ⟨hb1, hcase⟩
  have HB := Aside0.mk (below_then (below_alloc (Below.refl W.heap.size W) (.cells #[.int .u64 40] 31)) (by simp) hb1)
  clear hb1 HCALL
  rcases hcase with ⟨hbad, t, p, rfl⟩ | ⟨g, v, v2, n, r, hal, h40, rfl, hrd, hr2⟩
  · have HBAD := Aside0.mk (readMoves_bad b hbad)
    clear hbad
    go_wp2
    go_ret2
    exact ⟨HB.out, Or.inl ⟨HBAD.out, _, _, rfl⟩⟩
  have hin := HIN.out _ hal
  have hn := hin.2 n (by simp)
  have HLOOP := Aside0.mk (readMoves_loop b n r hal hn.1 h40)
  have HPOS := Aside0.mk (fun (x : Int) (hx : x ∈ r) => (hin.2 x (List.mem_cons_of_mem _ hx)).1)
  have hsz : W.heap.size ≤ (W.alloc (.cells #[.int .u64 40] 31)).heap.size := by simp
  have HRD := Aside0.mk (show IsRd W.heap.size g w1 r false v from ⟨hrd.1, Nat.le_trans hsz hrd.2.1, Kd.Q_lower hrd.2.2 hsz⟩)
  obtain ⟨A2, c2, rfl⟩ := Kd.R_slice hr2
  obtain ⟨ad, e, hx⟩ := Kd.at_int (Kd.R_reads' hr2).2.2 0 (by omega) (by simp)
  cases e
  rw [show ((0 : Int)).toNat = 0 from rfl, Addr.add_zero', show rd [n] 0 = n from rfl] at hx
  have HS := Aside0.mk (below_size HB.out)
  obtain ⟨N, rfl⟩ : ∃ N : Nat, n = (N : Int) := ⟨n.toNat, by omega⟩
  have hN : N ≤ 40 := by omega
  clear hin hn hal h40 hrd hr2 hsz HIN
  go_wp2
  go_loopw [7, 21] (fun v7 v21 w' => ∃ (acc : List S130) (i : Nat) (xs : List Int) (bad : Bool) (v : Value), v21 = .int .i64 (i : Int) ∧ i ≤ N ∧ Aside0 (acc.length = i) ∧ Aside0 (loopM (N - i) xs bad acc = loopM N r false []) ∧ Aside0 (∀ n ∈ xs, 0 ≤ n) ∧
    Aside0 (IsRd W.heap.size g w' xs bad v) ∧ Aside0 (k130.R 130 w' W.heap.size (fun _ => True) v7 acc) ∧ Aside0 (Below W.heap.size W w')) (fun _ v21 _ => N - (intOf v21).toNat)
  case atStart => exact ⟨[], 0, r, false, v, rfl, Nat.zero_le _, ⟨rfl⟩, ⟨by simp⟩, HPOS, HRD, ⟨Kd.R_nil _ _ _ _ _⟩, HB⟩
  case round =>
    clear HRD HB hx
    obtain ⟨acc, i, xs, bad, v', rfl, hi, hac, HLM, HP, HRD, HO, HB⟩ := hrel
    obtain ⟨A3, c3, rfl⟩ := Kd.R_slice HO.out
    by_cases hlt : (i : Int) < (N : Int)
    · have hlb : decide ((i : Int) < (N : Int)) = true := decide_eq_true hlt
      have hst : loopM (N - i) xs bad acc = loopM (N - (i + 1)) (step4 xs bad).2.1 (step4 xs bad).2.2 (acc ++ [(step4 xs bad).1]) := by
        rw [show N - i = (N - (i + 1)) + 1 by omega]
        rfl
      have HST := Aside0.mk (hst.symm.trans HLM.out)
      clear hst
      go_wp2_with fail
      refine (rd_int HRD.out HP.out).mono ?_
      rintro e w2 ⟨rfl, ⟨y2, hr2⟩, hb2, hk2⟩
      have HR2 := Aside0.mk hr2
      have HO2 := Aside0.mk (R130_over HO.out HRD.out.1 hk2)
      have HB2 := Aside0.mk (HB.out.trans hb2)
      have HP2 := Aside0.mk (stepI_in (bad := bad) HP.out)
      clear hr2 hb2 hk2 HO HB
      go_wp2_with fail
      refine (rd_int HR2.out HP2.out).mono ?_
      rintro e w3 ⟨rfl, ⟨y3, hr2⟩, hb2, hk2⟩
      have HR3 := Aside0.mk hr2
      have HO3 := Aside0.mk (R130_over HO2.out HR2.out.1 hk2)
      have HB3 := Aside0.mk (HB2.out.trans hb2)
      have HP3 := Aside0.mk (stepI_in (bad := (stepI xs bad).2.2) HP2.out)
      clear hr2 hb2 hk2 HO2 HB2
      go_wp2_with fail
      refine (rd_int HR3.out HP3.out).mono ?_
      rintro e w4 ⟨rfl, ⟨y4, hr2⟩, hb2, hk2⟩
      have HR4 := Aside0.mk hr2
      have HO4 := Aside0.mk (R130_over HO3.out HR3.out.1 hk2)
      have HB4 := Aside0.mk (HB3.out.trans hb2)
      have HP4 := Aside0.mk (stepI_in (bad := (stepI (stepI xs bad).2.1 (stepI xs bad).2.2).2.2) HP3.out)
      clear hr2 hb2 hk2 HO3 HB3
      go_wp2_with fail
      refine (rd_int HR4.out HP4.out).mono ?_
      rintro e w5 ⟨rfl, ⟨y5, hr2⟩, hb2, hk2⟩
      have HR5 := Aside0.mk hr2
      have HO5 := Aside0.mk (R130_over HO4.out HR4.out.1 hk2)
      have HB5 := Aside0.mk (HB4.out.trans hb2)
      have HP5 := Aside0.mk (stepI_in (bad := (stepI (stepI (stepI xs bad).2.1 (stepI xs bad).2.2).2.1 (stepI (stepI xs bad).2.1 (stepI xs bad).2.2).2.2).2.2) HP4.out)
      clear hr2 hb2 hk2 HO4 HB4
      obtain ⟨q, hq⟩ : ∃ q : S130, (step4 xs bad).1 = q := ⟨_, rfl⟩
      have e0 : (stepI xs bad).1 = q.f0 := by rw [← hq]; rfl
      have e1 : (stepI (stepI xs bad).2.1 (stepI xs bad).2.2).1 = q.f1 := by rw [← hq]; rfl
      have e2 : (stepI (stepI (stepI xs bad).2.1 (stepI xs bad).2.2).2.1 (stepI (stepI xs bad).2.1 (stepI xs bad).2.2).2.2).1 = q.f2 := by rw [← hq]; rfl
      have e3 : (stepI (stepI (stepI (stepI xs bad).2.1 (stepI xs bad).2.2).2.1 (stepI (stepI xs bad).2.1 (stepI xs bad).2.2).2.2).2.1 (stepI (stepI (stepI xs bad).2.1 (stepI xs bad).2.2).2.1 (stepI (stepI xs bad).2.1 (stepI xs bad).2.2).2.2).2.2).1 = q.f3 := by rw [← hq]; rfl
      rw [e0, e1, e2, e3]
      rw [hq] at HST
      have HR6 := Aside0.mk (show IsRd W.heap.size g w5 (step4 xs bad).2.1 (step4 xs bad).2.2 y5 from HR5.out)
      have HP6 := Aside0.mk (show ∀ n ∈ (step4 xs bad).2.1, 0 ≤ n from HP5.out)
      clear e0 e1 e2 e3 hq HR2 HR3 HR4 HR5 HP2 HP3 HP4 HP5 HRD HP HLM
      generalize (step4 xs bad).2.1 = xs' at HR6 HP6 HST
      generalize (step4 xs bad).2.2 = bad' at HR6 HST
      have hal : (acc.length + 1) * 32 ≤ 140737488355328 := by have := hac.out; omega
      have HAL := Aside0.mk hal
      clear hal
      go_wp2_with (first | ((with_reducible refine gate_builtin (b := .append) (xs := #[.tmp 23, .tmp 33]) rfl ?_); at_builtin; refine Kd.R_append k130 (w0 := W) W.heap.size rfl (.tmp 23) (.tmp 33) 58 130 (.agg #[.int .i64 0, .int .i64 0, .int .i64 0, .int .i64 0]) 32 rfl Try.underlying58 info130 rfl (by decide) (by omega) (.slice A3 acc.length c3) acc q [.int .i64 q.f0, .int .i64 q.f1, .int .i64 q.f2, .int .i64 q.f3] (fun _ => True) (fun _ => False) rfl rfl ?aP (fun _ hk => hk.elim) ?aF ?aO ?aB ?aS ?aL ?_; (case aP => exact k130_mkM _ _ _ q); (case aB => exact HB5.out); (case aF => exact fun _ _ => trivial); (case aO => exact HO5.out); (case aS => exact below_size HB5.out); (case aL => exact HAL.out); intro v1 w1 ho hb hg hat; have HR7 := Aside0.mk (show IsRd W.heap.size g w1 xs' bad' y5 from ⟨blk_grown HR6.out.1 hg (Kd.R_ne HO5.out HR6.out.1 (by decide)), HR6.out.2.1, Kd.Q_over' HR6.out.2.2 (fun k hk => by obtain ⟨inner, hh⟩ := Kd.R_own HO5.out; exact own_typed hh k hk) (by decide) hg⟩); obtain ⟨A6, c6, rfl⟩ := Kd.R_slice ho; have HO6 := Aside0.mk ho; have HB6 := Aside0.mk hb; clear ho hb hg hat))
      go_roundw
      case measure => simp [intOf]; omega
      case rel =>
        have hq := HO6.out
        rw [List.length_append, List.length_singleton] at hq
        exact ⟨acc ++ [q], i + 1, xs', bad', y5, by go_num, by omega, ⟨by simp [hac.out]⟩, HST, HP6, HR7, ⟨hq⟩, HB6⟩
    · have hlb : decide ((i : Int) < (N : Int)) = false := decide_eq_false hlt
      have hiN : i = N := by omega
      subst hiN
      have hlm := HLM.out
      rw [Nat.sub_self] at hlm
      have hz : loopM i r false [] = (acc, xs, bad) := hlm.symm
      have hrm := HLOOP.out
      rw [Int.toNat_natCast, hz] at hrm
      have HRM := Aside0.mk hrm
      clear hlm hz hrm
      go_wp2_with fail
      refine (rd_fine HRD.out).mono ?_
      rintro e w2 ⟨rfl, m, rfl⟩
      have HB2 := Aside0.mk (pw_below_drewN HB.out m)
      have HO2 := Aside0.mk (Kd.R_drewN HO.out m)
      clear HB HO
      cases hf : (!bad && xs.isEmpty) with
      | true =>
        have hrm := HRM.out
        simp only [hf, if_true] at hrm
        have HRM2 := Aside0.mk hrm
        clear hrm
        go_wp2
        go_ret2
        exact ⟨HB2.out, Or.inr ⟨_, acc, HRM2.out, rfl, HO2.out⟩⟩
      | false =>
        have hrm := HRM.out
        simp only [hf, Bool.false_eq_true, if_false] at hrm
        have HRM2 := Aside0.mk hrm
        clear hrm
        go_wp2
        go_ret2
        exact ⟨by repeat (first | (with_reducible exact HB2.out) | apply below_alloc | apply pw_below_drewN | apply below_drew1), Or.inl ⟨HRM2.out, _, _, rfl⟩⟩
end Go.Proofs.Ytppfkbigeknedaa.Q
