/- The walk of JournalPlays, by hand: the ways together. -/
import Derived.Test.YtppfkbigeknedaaVPlaysB
namespace Go.Proofs.Ytppfkbigeknedaa.Q
open Go.RowKit Go.Proofs.YtppfkbigeknedaaW.PrintWords Go.Proofs.YtppfkbigeknedaaW.PrintLast Go.Proofs.YtppfkbigeknedaaW.PrintMore
set_option linter.unusedVariables false
set_option linter.unusedSimpArgs false
noncomputable def dunnagelaw22_JournalPlays.f (a0 : Int) (l1 : List Int) (l2 : List S83) : Option Bool := open Classical in if Bytes l1 then some true else none
theorem dunnagelaw22_JournalPlays.calls (a0 : Int) (A1 : Option Addr) (c1 : Nat) (l1 : List Int) (A2 : Option Addr) (c2 : Nat) (l2 : List S83) (r : Bool) (w : World) (hr1 : Kd.C (Kd.int .u8) w A1 l1.length l1) (hc1 : l1.length ≤ c1) (hr2 : Kd.C k83 w A2 l2.length l2) (hc2 : l2.length ≤ c2) (h : dunnagelaw22_JournalPlays.f a0 l1 l2 = some r) :
    Calls Try.prog 13 #[.int .i64 a0, .slice A1 l1.length c1, .slice A2 l2.length c2] w fun e w' => e = .returned (.bool r) ∧ Below w.heap.size w w' := by
  unfold dunnagelaw22_JournalPlays.f at h
  split at h
  case isFalse => cases h
  next hb =>
  obtain rfl := Option.some.inj h
  by_cases g : a0 < 1 ∨ 65536 < a0
  · exact plays_bad a0 A1 c1 l1 A2 c2 l2 w g
  by_cases g2 : 5000 < a0 ∨ 5000 < l1.length ∨ 40 < l2.length
  · exact plays_long a0 A1 c1 l1 A2 c2 l2 w (by omega) (by omega) g2
  · exact plays_main a0 A1 c1 l1 A2 c2 l2 w (by omega) (by omega) (by omega) (by omega) hr1 hb hr2 hc1
end Go.Proofs.Ytppfkbigeknedaa.Q
