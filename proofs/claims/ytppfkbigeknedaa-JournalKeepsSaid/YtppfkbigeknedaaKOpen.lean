/- From what a row reads (DataW.trod) to the printed kinds. By this session's program (gen_open.py). -/
import Derived.Test.YtppfkbigeknedaaKQ0
import Derived.OpenShut
import Derived.ChangeArms
import Derived.ChangeShapes
import Derived.WideShapes
import Derived.Deep.Slices
namespace Go.Proofs.Ytppfkbigeknedaa.Q
open Go.RowKit Go.Proofs.YtppfkbigeknedaaW.PrintWords Go.Proofs.YtppfkbigeknedaaW.PrintLast Go.Proofs.YtppfkbigeknedaaW.PrintMore
open Go.ChangeShapes Go.WideShapes
set_option linter.unusedVariables false
def okI (k : IntKind) (n : Int) : Prop := (Lit.int k n).wf = true
def okL {α : Type} (p : α → Prop) (l : List α) : Prop := l.length ≤ maxLen ∧ ∀ x ∈ l, p x
def Opens (P : Program) (w : World) (t : TypeId) {α : Type} (d : Kd α) (ok : α → Prop) : Prop :=
  ∀ {H : Type} {enc : TypeId × Value → H} {base : Nat} {spare : Nat → Bool} {held : Bool} {fuel : Nat} {cs : List Value} {x : DataW H × List MemPlace}, DataW.trod enc P w base spare held fuel t cs = some x → ∃ a, d.K w a cs ∧ ok a
theorem opens_int {P : Program} {w : World} {t : TypeId} {k : IntKind} (ht : P.underlying t = some (.int k)) : Opens P w t (Kd.int k) (okI k) := by
  intro H enc base spare held fuel cs x h
  obtain ⟨n, hcs, _, hw⟩ := DataW.trod_int ht h
  exact ⟨n, hcs, hw⟩
theorem field_at {H : Type} {enc : TypeId × Value → H} {P : Program} {w : World} {base : Nat} {spare : Nat → Bool} {held : Bool} {n : Nat} {cs : List Value} {y : DataW H × List MemPlace} {f : Field} (h : DataW.trod enc P w base spare held n f.type ((cs.drop f.offset).take (P.cellsOf f.type)) = some y) (T off k : Nat) (ft : f.type = T) (fo : f.offset = off) (q : P.cellsOf T = k) : DataW.trod enc P w base spare held n T ((cs.drop off).take k) = some y := by
  subst ft; subst fo; subst q; exact h
theorem cells_of {w : World} {base : Nat} {ad : Addr} {n : Nat} {cs : List Value} (h : w.cells? base ad n = some cs) : cs.length = n ∧ ∀ i u, cs[i]? = some u → w.cell? (ad.add i) = some u := by
  obtain ⟨_, hl, hc⟩ := World.cells?_some h
  refine ⟨hl, fun i u hu => ?_⟩
  have hi : i < cs.length := (List.getElem?_eq_some_iff.1 hu).1
  rw [hc i (by omega)]
  exact hu
theorem opens_slice {P : Program} {w : World} {t e : TypeId} {α : Type} {d : Kd α} {ok : α → Prop} (ht : P.underlying t = some (.slice e)) (hz : P.cellsOf e = d.sz) (he : Opens P w e d ok) : Opens P w t (Kd.slice e d) (okL ok) := by
  intro H enc base spare held fuel cs x h
  rcases Go.Deep.open_slice ht h with ⟨rfl, _⟩ | ⟨a, len, cap, m, n, D, Pl, rfl, hb, hl, hm, hmm, _, hx⟩
  · exact ⟨[], ⟨none, 0, rfl, Nat.le_refl _, rfl, by simp, fun h => absurd h (by simp)⟩, by simp [maxLen], fun x hx => by simp at hx⟩
  · have hlm : len ≤ m := by rw [hmm]; split <;> omega
    have hex : ∀ i, i < len → ∃ v : α, ok v ∧ ∃ c, c.length = d.sz ∧ d.K w v c ∧ ∀ j u, c[j]? = some u → w.cell? (a.add (i * d.sz + j)) = some u := by
      intro i hi
      obtain ⟨cs', h1, h2⟩ := hx i (by omega)
      obtain ⟨v, hv, hov⟩ := he h2
      rw [hz] at h1
      obtain ⟨hl', hc'⟩ := cells_of h1
      refine ⟨v, hov, cs', hl', hv, fun j u hu => ?_⟩
      rw [← Go.Deep.add_add]
      exact hc' j u hu
    have hlist : ∀ k, k ≤ len → ∃ l : List α, l.length = k ∧ (∀ x ∈ l, ok x) ∧ ∀ j p, l[j]? = some p → ∃ c, c.length = d.sz ∧ d.K w p c ∧ ∀ i u, c[i]? = some u → w.cell? (a.add (j * d.sz + i)) = some u := by
      intro k
      induction k with
      | zero => exact fun _ => ⟨[], rfl, fun x hx => by simp at hx, fun j p hp => by simp at hp⟩
      | succ k ih =>
        intro hk
        obtain ⟨l, hl1, hok, hl2⟩ := ih (by omega)
        obtain ⟨v, hov, c, hc⟩ := hex k (by omega)
        refine ⟨l ++ [v], by simp [hl1], fun x hx => ?_, fun j p hp => ?_⟩
        · rcases List.mem_append.1 hx with h | h
          · exact hok x h
          · rw [List.mem_singleton.1 h]; exact hov
        · rcases Nat.lt_or_ge j l.length with hj | hj
          · rw [List.getElem?_append_left hj] at hp
            exact hl2 j p hp
          · rw [List.getElem?_append_right hj] at hp
            have hj0 : j - l.length = 0 := by
              have := (List.getElem?_eq_some_iff.1 hp).1
              simp at this; omega
            rw [hj0] at hp
            simp at hp
            subst hp
            have : j = k := by omega
            subst this
            exact ⟨c, hc⟩
    obtain ⟨l, hl1, hok, hl2⟩ := hlist len (Nat.le_refl _)
    have hb63 : len ≤ 9223372036854775807 := by unfold maxLen at hm; omega
    subst hl1
    exact ⟨l, ⟨some a, cap, rfl, hl, rfl, hb63, fun _ => ⟨a, rfl, hl2⟩⟩, by omega, hok⟩
theorem list_3 {α : Type} {l : List α} (h : l.length = 3) : ∃ c0 c1 c2, l = [c0, c1, c2] := by
  match l, h with
  | [c0, c1, c2], _ => exact ⟨c0, c1, c2, rfl⟩
theorem list_4 {α : Type} {l : List α} (h : l.length = 4) : ∃ c0 c1 c2 c3, l = [c0, c1, c2, c3] := by
  match l, h with
  | [c0, c1, c2, c3], _ => exact ⟨c0, c1, c2, c3, rfl⟩
def ok130 (x : S130) : Prop := (okI .i64) x.f0 ∧ (okI .i64) x.f1 ∧ (okI .i64) x.f2 ∧ (okI .i64) x.f3
theorem opens130 (w : World) : Opens Try.prog w 130 k130 ok130 := by
  intro H enc base spare held fuel cs x h
  obtain ⟨xs, n, rfl, hx, hl, hxl, hf⟩ := DataW.trod_struct Try.underlying130 h
  have q0 : Try.prog.cellsOf 130 = 4 := by kernel_rfl
  replace hl := hl.trans q0
  obtain ⟨c0, c1, c2, c3, rfl⟩ := list_4 hl
  obtain ⟨y0, e0⟩ : ∃ y, xs[0]? = some y := ⟨_, List.getElem?_eq_getElem (by rw [hxl]; decide)⟩
  have h0 := hf 0 _ rfl
  replace h0 := h0.trans e0
  have g0 : DataW.trod enc Try.prog w base spare held n 3 [c0] = some y0 := field_at h0 3 0 1 rfl rfl (by kernel_rfl)
  obtain ⟨v0, z0, o0⟩ := (opens_int Try.underlying3) g0
  obtain ⟨y1, e1⟩ : ∃ y, xs[1]? = some y := ⟨_, List.getElem?_eq_getElem (by rw [hxl]; decide)⟩
  have h1 := hf 1 _ rfl
  replace h1 := h1.trans e1
  have g1 : DataW.trod enc Try.prog w base spare held n 3 [c1] = some y1 := field_at h1 3 1 1 rfl rfl (by kernel_rfl)
  obtain ⟨v1, z1, o1⟩ := (opens_int Try.underlying3) g1
  obtain ⟨y2, e2⟩ : ∃ y, xs[2]? = some y := ⟨_, List.getElem?_eq_getElem (by rw [hxl]; decide)⟩
  have h2 := hf 2 _ rfl
  replace h2 := h2.trans e2
  have g2 : DataW.trod enc Try.prog w base spare held n 3 [c2] = some y2 := field_at h2 3 2 1 rfl rfl (by kernel_rfl)
  obtain ⟨v2, z2, o2⟩ := (opens_int Try.underlying3) g2
  obtain ⟨y3, e3⟩ : ∃ y, xs[3]? = some y := ⟨_, List.getElem?_eq_getElem (by rw [hxl]; decide)⟩
  have h3 := hf 3 _ rfl
  replace h3 := h3.trans e3
  have g3 : DataW.trod enc Try.prog w base spare held n 3 [c3] = some y3 := field_at h3 3 3 1 rfl rfl (by kernel_rfl)
  obtain ⟨v3, z3, o3⟩ := (opens_int Try.underlying3) g3
  exact ⟨⟨v0, v1, v2, v3⟩, ⟨[c0], [c1, c2, c3], rfl, z0, ⟨[c1], [c2, c3], rfl, z1, ⟨[c2], [c3], rfl, z2, z3⟩⟩⟩, ⟨o0, o1, o2, o3⟩⟩
def ok60 (x : S60) : Prop := (okI .i64) x.f0 ∧ (okI .i64) x.f1 ∧ (okL ok130) x.f2
theorem opens60 (w : World) : Opens Try.prog w 60 k60 ok60 := by
  intro H enc base spare held fuel cs x h
  obtain ⟨xs, n, rfl, hx, hl, hxl, hf⟩ := DataW.trod_struct Try.underlying60 h
  have q0 : Try.prog.cellsOf 60 = 3 := by kernel_rfl
  replace hl := hl.trans q0
  obtain ⟨c0, c1, c2, rfl⟩ := list_3 hl
  obtain ⟨y0, e0⟩ : ∃ y, xs[0]? = some y := ⟨_, List.getElem?_eq_getElem (by rw [hxl]; decide)⟩
  have h0 := hf 0 _ rfl
  replace h0 := h0.trans e0
  have g0 : DataW.trod enc Try.prog w base spare held n 3 [c0] = some y0 := field_at h0 3 0 1 rfl rfl (by kernel_rfl)
  obtain ⟨v0, z0, o0⟩ := (opens_int Try.underlying3) g0
  obtain ⟨y1, e1⟩ : ∃ y, xs[1]? = some y := ⟨_, List.getElem?_eq_getElem (by rw [hxl]; decide)⟩
  have h1 := hf 1 _ rfl
  replace h1 := h1.trans e1
  have g1 : DataW.trod enc Try.prog w base spare held n 3 [c1] = some y1 := field_at h1 3 1 1 rfl rfl (by kernel_rfl)
  obtain ⟨v1, z1, o1⟩ := (opens_int Try.underlying3) g1
  obtain ⟨y2, e2⟩ : ∃ y, xs[2]? = some y := ⟨_, List.getElem?_eq_getElem (by rw [hxl]; decide)⟩
  have h2 := hf 2 _ rfl
  replace h2 := h2.trans e2
  have g2 : DataW.trod enc Try.prog w base spare held n 58 [c2] = some y2 := field_at h2 58 2 1 rfl rfl (by kernel_rfl)
  obtain ⟨v2, z2, o2⟩ := (opens_slice Try.underlying58 (by kernel_rfl) (opens130 w)) g2
  exact ⟨⟨v0, v1, v2⟩, ⟨[c0], [c1, c2], rfl, z0, ⟨[c1], [c2], rfl, z1, z2⟩⟩, ⟨o0, o1, o2⟩⟩
end Go.Proofs.Ytppfkbigeknedaa.Q
