/- JournalWrites, in plain lists. -/
import Derived.Test.YtppfkbigeknedaaStatJournalWrites
import Derived.Test.YtppfkbigeknedaaEntryLaws
namespace Go.Proofs.Ytppfkbigeknedaa.Q
open Go.RowKit Go.Proofs.YtppfkbigeknedaaW.PrintWords
theorem pureJournalWrites : dunnagelaw22_JournalWrites.Pure := by
  intro e he
  have hall : Ev (fun k => dunnagelaw22_JournalWrites.f k e.f0 e.f1 e.f2) true := by
    unfold dunnagelaw22_JournalWrites.f dunnagelaw22_up.f
    simp only [Option.bind_some]
    by_cases hl : (e.f2.length : Int) > 100
    · simp only [if_pos hl]
      exact Ev.now _
    · simp only [if_neg hl]
      refine Ev.bind (bytes_ev e.f0 e.f1 e.f2) (Ev.bind (record_ev e.f0 e.f1 e.f2) ?_)
      have hm := may_ev e.f0 e.f1 e.f2
      by_cases h : entryL e.f0 e.f1 e.f2 = []
      · rw [h] at hm
        simp only [if_pos h, Bool.false_eq_true, if_false, if_true]
        refine Ev.bind hm ?_
        refine Ev.congr (f := fun _ => some true) (fun k => ?_) (Ev.now _)
        simp
      · have hp : ((entryL e.f0 e.f1 e.f2).length : Int) > 0 := by
          have := List.length_pos_iff.2 h
          omega
        rw [decide_eq_true hp] at hm
        simp only [if_neg h, if_true]
        refine Ev.bind hm ?_
        refine Ev.congr (f := fun _ => some true) (fun k => ?_) (Ev.now _)
        simp
  exact hall.rounds
end Go.Proofs.Ytppfkbigeknedaa.Q
