/- VecTimes, in plain numbers. -/
import Derived.Test.YtppfkbigeknedaaStatVecTimes
import Derived.Test.YtppfkbigeknedaaVecLaws
namespace Go.Proofs.Ytppfkbigeknedaa.Q
theorem pureVecTimes : dunnagelaw01_VecTimes.Pure := by
  intro x n hx hn
  obtain ⟨h0, h1, h2, h3⟩ := hx
  unfold dunnagelaw01_VecTimes.f
  rw [up01]
  simp only [Option.bind_some, vec_Times.f, isU64_of h0, isU64_of h1, isU64_of h2, isU64_of h3, isU64_of hn, Bool.and_self, if_true, dunnageref01_Times.f]
  have hm := fun (a : Int) (ha : okI .u64 a) => mul_pair a n (u64_of ha).1 (u64_of ha).2 (u64_of hn).1 (u64_of hn).2
  rw [held_each (mulF n) timesF x.f0 x.f1 x.f2 x.f3 x.f0 x.f1 x.f2 x.f3 x.f0 x.f1 x.f2 x.f3 n n n n (hm _ h0) (hm _ h1) (hm _ h2) (hm _ h3)]
  rfl
end Go.Proofs.Ytppfkbigeknedaa.Q
