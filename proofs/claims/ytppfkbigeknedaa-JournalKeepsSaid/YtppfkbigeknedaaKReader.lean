/- codec.reader: next, int, fine, by hand. -/
import Derived.Test.YtppfkbigeknedaaKQ0
namespace Go.Proofs.Ytppfkbigeknedaa.Q
open Go.RowKit Go.Proofs.YtppfkbigeknedaaW.PrintWords Go.Proofs.YtppfkbigeknedaaW.PrintLast Go.Proofs.YtppfkbigeknedaaW.PrintMore
set_option linter.unusedVariables false
set_option linter.unusedSimpArgs false
set_option maxRecDepth 100000
attribute [local go_sem] eqe_ii eqe_nn eqe_ni eqe_nni
def IsRd (base g : Nat) (W : World) (xs : List Int) (bad : Bool) (v : Value) : Prop :=
  W.heap[g]? = some (.cells #[v, .bool bad] 235 (0, 0)) ∧ base ≤ g ∧ Kd.Q (Kd.int .u64) 31 W base (fun _ => True) v xs
theorem cellRd {W : World} {g : Nat} {v : Value} {bad : Bool} (hb : W.heap[g]? = some (.cells #[v, .bool bad] 235 (0, 0))) : W.cell? ⟨g, 0, none⟩ = some v ∧ W.cell? ⟨g, 1, none⟩ = some (.bool bad) ∧ W.frozen? ⟨g, 0, none⟩ = false ∧ W.frozen? ⟨g, 1, none⟩ = false :=
  ⟨(blk_cell hb 0).trans rfl, (blk_cell hb 1).trans rfl, blk_frozen hb 0, blk_frozen hb 1⟩
theorem IsRd.below {base g : Nat} {W W1 : World} {xs : List Int} {bad : Bool} {v : Value} (h : IsRd base g W xs bad v) (hb : Below W.heap.size W W1) : IsRd base g W1 xs bad v :=
  ⟨blk_below h.1 hb, h.2.1, Kd.Q_below h.2.2 hb⟩
theorem IsRd.setBad {base g : Nat} {W : World} {xs : List Int} {bad : Bool} {v : Value} (h : IsRd base g W xs bad v) : IsRd base g (W.setCell ⟨g, 1, none⟩ (.bool true)) xs true v :=
  ⟨blk_put (cs := #[v, .bool bad]) h.1 1 _ rfl, h.2.1, Kd.Q_set h.2.2 h.1 (by decide) 1 _⟩
set_option maxHeartbeats 8000000 in
theorem rd_next {base g : Nat} {W : World} {xs : List Int} {bad : Bool} {v : Value} (h : IsRd base g W xs bad v) :
    Calls Try.prog 168 #[.pointer (some ⟨g, 0, none⟩)] W fun e w' => e = .returned (.int .u64 (xs.headD 0)) ∧ (∃ v', IsRd base g w' xs.tail (bad || xs.isEmpty) v') ∧ Below base W w' ∧ Kept W w' (fun k => k = g) := by
  have H := Aside0.mk h
  obtain ⟨c0, c1, f0, f1⟩ := cellRd h.1
  obtain ⟨A, c, rfl, hc⟩ := Kd.Q_slice h.2.2
  clear h
  cases xs with
  | nil =>
    go_enter Try.func168, Try.ntmps168
    go_wp2
    go_ret
    refine ⟨rfl, ⟨.slice A ([] : List Int).length c, ?_⟩, (Below.refl _ _).setCell H.out.2.1 _, Kept.setCell (p := ⟨g, 1, none⟩) (Kept.refl W (fun k => k = g)) (Or.inl rfl) _⟩
    simpa using H.out.setBad
  | cons x r =>
    have hrd := (Kd.Q_reads' H.out.2.2).2.2
    obtain ⟨ad, e, hx⟩ := Kd.at_int hrd 0 (by omega) (by simp)
    cases e
    rw [show ((0 : Int)).toNat = 0 from rfl, Addr.add_zero'] at hx
    have hx0 : rd (x :: r) 0 = x := rfl
    rw [hx0] at hx
    obtain ⟨i31, hi31, hz⟩ := Option.map_eq_some_iff.1 info31
    have hsz : i31.size = 1 := by simp only [Prod.mk.injEq] at hz; exact hz.2.1
    have hcut := cut_from (P := Try.prog) 112 31 .i64 Try.underlying112 hi31 1 hsz (some ad) (x :: r).length c 1 (by omega) (by simp only [List.length_cons]; omega)
    have hlen : (x :: r).length = r.length + 1 := rfl
    rw [hlen] at hcut c0
    have hne : ((r.length + 1 : Nat) : Int) ≠ 0 := by omega
    have hq := Kd.Q_drop H.out.2.2 (k := 1) (by simp)
    have HQ := Aside0.mk hq
    obtain ⟨A1, hA1⟩ : ∃ A1, (if c = (1 : Int).toNat then some ad else (some ad).map (·.add ((1 : Int).toNat * 1))) = A1 := ⟨_, rfl⟩
    rw [hA1] at hcut
    have HA1 := Aside0.mk hA1
    clear hq hz hsz hi31 hx0 hA1
    go_enter Try.func168, Try.ntmps168
    go_wp2
    go_ret
    have hq := HQ.out
    rw [show ((if c = 1 then some ad else (some ad).map (fun x => x.add (1 * (Kd.int .u64).sz))) : Option Addr) = A1 from HA1.out, show (x :: r).length - 1 = r.length from rfl] at hq
    refine ⟨rfl, ⟨.slice A1 r.length (c - 1), ?_⟩, (Below.refl _ _).setCell H.out.2.1 _, Kept.setCell (p := ⟨g, 0, none⟩) (Kept.refl W (fun k => k = g)) (Or.inl rfl) _⟩
    have hh : IsRd base g (W.setCell ⟨g, 0, none⟩ (.slice A1 r.length (c - 1))) r bad (.slice A1 r.length (c - 1)) :=
      ⟨blk_put (cs := #[.slice (some ad) (x :: r).length c, .bool bad]) H.out.1 0 _ rfl, H.out.2.1, Kd.Q_set hq H.out.1 (by decide) 0 _⟩
    simpa using hh
def stepI (xs : List Int) (bad : Bool) : Int × List Int × Bool := (if xs.headD 0 ≤ 2147483647 then xs.headD 0 else 0, xs.tail, (bad || xs.isEmpty) || decide (2147483647 < xs.headD 0))
set_option maxHeartbeats 8000000 in
theorem rd_int {base g : Nat} {W : World} {xs : List Int} {bad : Bool} {v : Value} (h : IsRd base g W xs bad v) (hx : ∀ n ∈ xs, 0 ≤ n) :
    Calls Try.prog 154 #[.pointer (some ⟨g, 0, none⟩)] W fun e w' => e = .returned (.int .i64 (stepI xs bad).1) ∧ (∃ v', IsRd base g w' (stepI xs bad).2.1 (stepI xs bad).2.2 v') ∧ Below base W w' ∧ Kept W w' (fun k => k = g) := by
  have HN := Aside0.mk (rd_next h)
  have h0 : 0 ≤ xs.headD 0 := by
    cases xs with
    | nil => exact Int.le_refl _
    | cons x r => exact hx x (by simp)
  clear h hx
  unfold stepI
  generalize xs.headD 0 = x at h0 HN ⊢
  generalize xs.tail = t at HN ⊢
  generalize (bad || xs.isEmpty) = bd at HN ⊢
  go_enter Try.func154, Try.ntmps154
  go_wp2_with fail
  refine HN.out.mono ?_
  rintro e w1 ⟨rfl, ⟨v1, hr1⟩, hb1, hk1⟩
  have H1 := Aside0.mk hr1
  have HB := Aside0.mk hb1
  have HK := Aside0.mk hk1
  obtain ⟨c0, c1, f0, f1⟩ := cellRd hr1.1
  clear hr1 hb1 hk1
  by_cases hl : 2147483647 < x
  · have hd : decide (2147483647 < x) = true := decide_eq_true hl
    have hn : ¬ x ≤ 2147483647 := by omega
    go_wp2
    go_ret
    refine ⟨by simp [hn], ⟨v1, ?_⟩, HB.out.setCell H1.out.2.1 _, HK.out.setCell (p := ⟨g, 1, none⟩) (Or.inl rfl) _⟩
    simpa [hd] using H1.out.setBad
  · have hd : decide (2147483647 < x) = false := decide_eq_false hl
    have hn : x ≤ 2147483647 := by omega
    have hw : wrap64 x = x := by unfold wrap64; omega
    go_wp2
    go_ret
    refine ⟨?_, ⟨v1, by simpa [hd] using H1.out⟩, HB.out, HK.out⟩
    first | (simp [hn]; done) | (simp [hn, hw]; done) | trace_state
set_option maxHeartbeats 8000000 in
theorem rd_fine {base g : Nat} {W : World} {xs : List Int} {bad : Bool} {v : Value} (h : IsRd base g W xs bad v) :
    Calls Try.prog 155 #[.pointer (some ⟨g, 0, none⟩)] W fun e w' => e = .returned (.bool (!bad && xs.isEmpty)) ∧ ∃ n, w' = W.drewN n := by
  obtain ⟨c0, c1, f0, f1⟩ := cellRd h.1
  obtain ⟨A, c, rfl, hc⟩ := Kd.Q_slice h.2.2
  clear h
  cases bad with
  | true =>
    go_enter Try.func155, Try.ntmps155
    go_wp2
    repeat (go_quiet (fail); try go_wp2)
    go_ret
    exact ⟨rfl, 0, rfl⟩
  | false =>
    cases xs with
    | nil =>
      go_enter Try.func155, Try.ntmps155
      go_wp2
      repeat (go_quiet (fail); try go_wp2)
      go_ret
      exact ⟨rfl, 0, rfl⟩
    | cons x r =>
      have hlen : (x :: r).length = r.length + 1 := rfl
      rw [hlen] at c0
      have hne : (((r.length + 1 : Nat) : Int) == 0) = false := by simp; omega
      go_enter Try.func155, Try.ntmps155
      go_wp2
      repeat (go_quiet (fail); try go_wp2)
      go_ret
      exact ⟨by simp; try omega, 0, rfl⟩
end Go.Proofs.Ytppfkbigeknedaa.Q
