/- PriorOne, in plain lists. -/
import Derived.Test.YtppfkbigeknedaaStatPriorOne
import Derived.Test.YtppfkbigeknedaaPriorLaws
namespace Go.Proofs.Ytppfkbigeknedaa.Q
open Go.RowKit Go.Proofs.YtppfkbigeknedaaW.PrintWords
set_option linter.unusedVariables false
theorem purePriorOne : dunnagelaw10_PriorOne.Pure := by
  intro x a b c _ _ _ _
  unfold dunnagelaw10_PriorOne.f
  rw [law10_up_eq, Option.bind_some]
  by_cases h : (x.f0.length : Int) > 40
  · rw [if_pos h]
  · rw [if_neg h, may_eq, Option.bind_some, may_eq, Option.bind_some, if_pos rfl, may_eq, Option.bind_some, may_self, if_neg (by simp)]
    cases h1 : mayB x.f0 a b with
    | false => rfl
    | true =>
      rw [if_pos rfl, may_eq, Option.bind_some, may_anti _ _ _ h1, if_neg (by simp)]
      cases h2 : mayB x.f0 b c with
      | false => rfl
      | true => rw [if_pos rfl, may_eq, Option.bind_some, may_trans _ _ _ _ h1 h2]
end Go.Proofs.Ytppfkbigeknedaa.Q
