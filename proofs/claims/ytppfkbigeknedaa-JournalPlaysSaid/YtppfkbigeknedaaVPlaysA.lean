/- The walk of JournalPlays, by hand: the short ways. -/
import Derived.Test.YtppfkbigeknedaaVSameJ
import Derived.Test.YtppfkbigeknedaaVUp22
import Derived.Test.YtppfkbigeknedaaVQdunnagelaw22pick
namespace Go.Proofs.Ytppfkbigeknedaa.Q
open Go.RowKit Go.Proofs.YtppfkbigeknedaaW.PrintWords Go.Proofs.YtppfkbigeknedaaW.PrintLast Go.Proofs.YtppfkbigeknedaaW.PrintMore
set_option linter.unusedVariables false
set_option linter.unusedSimpArgs false
set_option maxRecDepth 100000
attribute [local go_sem] eqe_ii eqe_nn eqe_ni eqe_nni
set_option maxHeartbeats 8000000 in
theorem plays_bad (a0 : Int) (A1 : Option Addr) (c1 : Nat) (l1 : List Int) (A2 : Option Addr) (c2 : Nat) (l2 : List S83) (w : World) (h : a0 < 1 ∨ 65536 < a0) :
    Calls Try.prog 13 #[.int .i64 a0, .slice A1 l1.length c1, .slice A2 l2.length c2] w fun e w' => e = .returned (.bool true) ∧ Below w.heap.size w w' := by
  have hn := fun W => disk_new_bad a0 W h
  have HN := Aside0.mk hn
  clear hn h
  go_enter Try.func13, Try.ntmps13
  go_wp2_with fail
  refine (law22_up _).mono ?_
  rintro e w1 ⟨rfl, hb1⟩
  have HB1 := Aside0.mk hb1
  clear hb1
  go_wp2_with fail
  refine (HN.out _).mono ?_
  rintro e w2 ⟨rfl, hb2⟩
  have HB2 := Aside0.mk hb2
  clear hb2
  go_wp2
  repeat (go_quiet (fail); try go_wp2)
  go_ret
  exact ⟨rfl, below_then HB1.out (below_size HB1.out) HB2.out⟩
set_option maxHeartbeats 8000000 in
theorem plays_long (a0 : Int) (A1 : Option Addr) (c1 : Nat) (l1 : List Int) (A2 : Option Addr) (c2 : Nat) (l2 : List S83) (w : World) (h1 : 1 ≤ a0) (h2 : a0 ≤ 65536) (hl : 5000 < a0 ∨ 5000 < l1.length ∨ 40 < l2.length) :
    Calls Try.prog 13 #[.int .i64 a0, .slice A1 l1.length c1, .slice A2 l2.length c2] w fun e w' => e = .returned (.bool true) ∧ Below w.heap.size w w' := by
  have HN := Aside0.mk (fun W => disk_new a0 W h1 h2)
  have key : (decide ((5000 : Int) < a0) = true) ∨ (decide ((5000 : Int) < a0) = false ∧ decide ((5000 : Int) < (l1.length : Int)) = true) ∨ (decide ((5000 : Int) < a0) = false ∧ decide ((5000 : Int) < (l1.length : Int)) = false ∧ decide ((40 : Int) < (l2.length : Int)) = true) := by
    by_cases h3 : (5000 : Int) < a0
    · exact Or.inl (decide_eq_true h3)
    by_cases h4 : (5000 : Int) < (l1.length : Int)
    · exact Or.inr (Or.inl ⟨decide_eq_false h3, decide_eq_true h4⟩)
    · exact Or.inr (Or.inr ⟨decide_eq_false h3, decide_eq_false h4, decide_eq_true (by omega)⟩)
  clear hl h1 h2
  rcases key with k1 | ⟨k1, k2⟩ | ⟨k1, k2, k3⟩
  all_goals
    go_enter Try.func13, Try.ntmps13
    go_wp2_with fail
    refine (law22_up _).mono ?_
    rintro e w1 ⟨rfl, hb1⟩
    have HB1 := Aside0.mk hb1
    clear hb1
    go_wp2_with fail
    refine (HN.out _).mono ?_
    rintro e w2 ⟨g, rfl, hd2, hb2⟩
    have HB2 := Aside0.mk hb2
    clear hb2 hd2
    go_wp2
    repeat (go_quiet (fail); try go_wp2)
    go_ret
    exact ⟨rfl, below_then HB1.out (below_size HB1.out) HB2.out⟩
end Go.Proofs.Ytppfkbigeknedaa.Q
