/- The walk of JournalKeeps, by hand: the short ways. -/
import Derived.Test.YtppfkbigeknedaaKRL
import Derived.Test.YtppfkbigeknedaaKPlaysA
namespace Go.Proofs.Ytppfkbigeknedaa.Q
open Go.RowKit Go.Proofs.YtppfkbigeknedaaW.PrintWords Go.Proofs.YtppfkbigeknedaaW.PrintLast Go.Proofs.YtppfkbigeknedaaW.PrintMore
set_option linter.unusedVariables false
set_option linter.unusedSimpArgs false
set_option maxRecDepth 100000
attribute [local go_sem] eqe_ii eqe_nn eqe_ni eqe_nni
set_option maxHeartbeats 8000000 in
theorem keeps_bad (a0 : Int) (A1 : Option Addr) (c1 : Nat) (l1 : List S60) (ea eb : Int) (A2 : Option Addr) (c2 : Nat) (m : List S130) (n : Int) (w : World) (h : a0 < 1 ∨ 65536 < a0) :
    Calls Try.prog 14 #[.int .i64 a0, .slice A1 l1.length c1, .agg #[.int .i64 ea, .int .i64 eb, .slice A2 m.length c2], .int .i64 n] w fun e w' => e = .returned (.bool true) ∧ Below w.heap.size w w' := by
  have hn := fun W => disk_new_bad a0 W h
  have HN := Aside0.mk hn
  clear hn h
  have HB0 := Aside0.mk (below_alloc (Below.refl w.heap.size w) (.cells #[.int .i64 ea, .int .i64 eb, .slice A2 m.length c2] 60))
  go_enter Try.func14, Try.ntmps14
  go_wp2_with fail
  refine (law22_up _).mono ?_
  rintro e w1 ⟨rfl, hb1⟩
  have HB1 := Aside0.mk (below_then HB0.out HB0.out.size hb1)
  clear hb1
  go_wp2_with fail
  refine (HN.out _).mono ?_
  rintro e w2 ⟨rfl, hb2⟩
  have HB2 := Aside0.mk hb2
  clear hb2
  go_wp2
  repeat (go_quiet (fail); try go_wp2)
  go_ret
  exact ⟨rfl, below_then HB1.out (below_size HB1.out) HB2.out⟩
set_option maxHeartbeats 8000000 in
theorem keeps_long (a0 : Int) (A1 : Option Addr) (c1 : Nat) (l1 : List S60) (ea eb : Int) (A2 : Option Addr) (c2 : Nat) (m : List S130) (n : Int) (w : World) (h1 : 1 ≤ a0) (h2 : a0 ≤ 65536) (hl : 5000 < a0 ∨ 40 < l1.length ∨ 100 < m.length) :
    Calls Try.prog 14 #[.int .i64 a0, .slice A1 l1.length c1, .agg #[.int .i64 ea, .int .i64 eb, .slice A2 m.length c2], .int .i64 n] w fun e w' => e = .returned (.bool true) ∧ Below w.heap.size w w' := by
  have HN := Aside0.mk (fun W => disk_new a0 W h1 h2)
  have key : (decide ((5000 : Int) < a0) = true) ∨ (decide ((5000 : Int) < a0) = false ∧ decide ((40 : Int) < (l1.length : Int)) = true) ∨ (decide ((5000 : Int) < a0) = false ∧ decide ((40 : Int) < (l1.length : Int)) = false ∧ decide ((100 : Int) < (m.length : Int)) = true) := by
    by_cases h3 : (5000 : Int) < a0
    · exact Or.inl (decide_eq_true h3)
    by_cases h4 : (40 : Int) < (l1.length : Int)
    · exact Or.inr (Or.inl ⟨decide_eq_false h3, decide_eq_true h4⟩)
    · exact Or.inr (Or.inr ⟨decide_eq_false h3, decide_eq_false h4, decide_eq_true (by omega)⟩)
  clear hl h1 h2
  have HB0 := Aside0.mk (below_alloc (Below.refl w.heap.size w) (.cells #[.int .i64 ea, .int .i64 eb, .slice A2 m.length c2] 60))
  rcases key with k1 | ⟨k1, k2⟩ | ⟨k1, k2, k3⟩
  all_goals
    go_enter Try.func14, Try.ntmps14
    go_wp2_with fail
    refine (law22_up _).mono ?_
    rintro e w1 ⟨rfl, hb1⟩
    have HB1 := Aside0.mk (below_then HB0.out HB0.out.size hb1)
    have hx1 := blk_below (blk_new w (.cells #[.int .i64 ea, .int .i64 eb, .slice A2 m.length c2] 60)) hb1
    clear hb1
    go_wp2_with fail
    refine (HN.out _).mono ?_
    rintro e w2 ⟨g, rfl, hd2, hb2⟩
    have HB2 := Aside0.mk hb2
    have hx2 := blk_below hx1 hb2
    have x2 := (blk_cell hx2 2).trans (rfl : _ = some (Value.slice A2 m.length c2))
    clear hb2 hd2 hx1 hx2
    go_wp2
    repeat (go_quiet (fail); try go_wp2)
    go_ret
    exact ⟨rfl, below_then HB1.out (below_size HB1.out) HB2.out⟩
end Go.Proofs.Ytppfkbigeknedaa.Q
