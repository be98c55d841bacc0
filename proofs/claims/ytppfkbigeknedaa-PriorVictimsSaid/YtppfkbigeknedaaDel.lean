/- slices.DeleteFunc of pods, by hand. -/
import Derived.Test.YtppfkbigeknedaaSortF
import Derived.Test.YtppfkbigeknedaaQstateplace
import Derived.Lib.SliceRun
namespace Go.Proofs.Ytppfkbigeknedaa.Q
open Go.Shelf Go.RowKit Go.Lib Go.Proofs.YtppfkbigeknedaaW.PrintWords
open Go.Sort hiding Below
set_option linter.unusedVariables false
set_option linter.unusedSimpArgs false
set_option maxRecDepth 100000
/-- 'clear' of a row of pods: it runs, and writes into that row alone. -/
theorem clear_pods (W : World) (b o n c : Nat) (hn : 0 < n) (hc : ∀ j, j < n * 8 → (W.cell? ⟨b, o + j, none⟩).isSome = true) (hf : ∀ j, j < n * 8 → W.frozen? ⟨b, o + j, none⟩ = false) :
    ∃ vs : List Value, vs.length = n * 8 ∧ ∀ ty, (Builtin.clear_ #[24] ty #[.slice (some ⟨b, o, none⟩) n c]).run Try.prog W = .ok (.tuple #[]) (W.setCells b o vs) := by
  have hst := fun (vs : List Value) (hl : vs.length = n * 8) (h1 : ∀ v ∈ vs, v.oneCell' = true) => run_storeCells_cells (P := Try.prog) b o vs 0 W (by rw [hl]; simpa using hc) (by rw [hl]; simpa using hf) h1
  simp only [Nat.add_zero] at hst
  obtain ⟨m, rfl⟩ : ∃ m, n = m + 1 := ⟨n - 1, by omega⟩
  refine ⟨(Builtin.zeroCells (Value.cells (.agg #[(.int .i64 0), (.int .i64 0), (.int .i64 0), (.int .u64 0), (.int .u64 0), (.int .u64 0), (.int .u64 0), (.int .i64 0)])) (m + 1)).toList, ?_, ?_⟩
  · simp [Builtin.zeroCells, Value.cells]
  · intro ty
    have h := hst (Builtin.zeroCells (Value.cells (.agg #[(.int .i64 0), (.int .i64 0), (.int .i64 0), (.int .u64 0), (.int .u64 0), (.int .u64 0), (.int .u64 0), (.int .i64 0)])) (m + 1)).toList (by simp [Builtin.zeroCells, Value.cells]) (by
      intro v hv
      simp [Builtin.zeroCells, Value.cells] at hv
      obtain ⟨i, hi, rfl⟩ := hv
      have : i % 8 < 8 := Nat.mod_lt _ (by omega)
      generalize i % 8 = t at this ⊢
      rcases (show t = 0 ∨ t = 1 ∨ t = 2 ∨ t = 3 ∨ t = 4 ∨ t = 5 ∨ t = 6 ∨ t = 7 by omega) with rfl | rfl | rfl | rfl | rfl | rfl | rfl | rfl <;> rfl)
    simp [Builtin.clear_, run_underlying Try.underlying24, Try.zeroValue70, h]
theorem holdsP_block {W W' : World} {blk : Nat} {d : Array S70} (h : HoldsK encP 8 W blk 0 d) (hb : W'.heap[blk]? = W.heap[blk]?) : HoldsK encP 8 W' blk 0 d :=
  fun j hj => ⟨by rw [World.cell?_of_block (w := W) hb]; exact (h j hj).1, by rw [World.frozen?_of_block (w := W) hb]; exact (h j hj).2⟩
theorem setCells_far (b : Nat) : ∀ (vs : List Value) (o : Nat) (W : World) (k : Nat), k ≠ b → (W.setCells b o vs).heap[k]? = W.heap[k]?
  | [], _, _, _, _ => rfl
  | v :: r, o, W, k, h => by rw [World.setCells, setCells_far b r _ _ k h]; exact Below.heap_setCell W ⟨b, o, none⟩ v k h
theorem below_setCells {B b : Nat} {w0 : World} (hB : B ≤ b) : ∀ (vs : List Value) (o : Nat) (W : World), Below B w0 W → Below B w0 (W.setCells b o vs)
  | [], _, _, h => h
  | v :: r, o, W, h => by rw [World.setCells]; exact below_setCells hB r _ _ (h.setCell (p := ⟨b, o, none⟩) hB v)
theorem c_of_holds {W : World} {blk : Nat} {d : Array S70} (h : HoldsK encP 8 W blk 0 d) (hm : d.size ≤ 9223372036854775807) : Kd.C k70 W (some ⟨blk, 0, none⟩) d.size d.toList := by
  refine ⟨by simp, hm, fun _ => ⟨_, rfl, fun j x hj => ⟨encP x, rfl, k70_mk W x, fun i u hu => ?_⟩⟩⟩
  have hj' : j < d.size := by simpa using (List.getElem?_eq_some_iff.1 hj).1
  have hx : d[j]! = x := by rw [getElem!_pos d j hj']; have := (List.getElem?_eq_some_iff.1 hj).2; simpa using this
  have hi : i < 8 := (List.getElem?_eq_some_iff.1 hu).1
  have hc := (HoldsK.cell h hj' hi).1
  rw [hx] at hc
  show W.cell? ((⟨blk, 0, none⟩ : Addr).add (j * 8 + i)) = some u
  rw [show (⟨blk, 0, none⟩ : Addr).add (j * 8 + i) = ⟨blk, 0 + j * 8 + i, none⟩ by rw [Addr.add_lit, Nat.add_assoc]]
  rw [hc, getElem!_pos (encP x) i hi]
  exact congrArg some (List.getElem?_eq_some_iff.1 hu).2
theorem holds_of_R {W : World} {base : Nat} {ok : Nat → Prop} {v : Value} {xs : List S70} (h : Kd.R k70 70 W base ok v xs) : (v = .slice none 0 0 ∧ xs = []) ∨ ∃ blk cap, v = .slice (some ⟨blk, 0, none⟩) xs.length cap ∧ base ≤ blk ∧ blk < W.heap.size ∧ xs.length ≤ cap ∧ xs.length ≤ 9223372036854775807 ∧ HoldsK encP 8 W blk 0 xs.toArray := by
  obtain ⟨_, inner, ho, hr⟩ := h
  obtain ⟨hl, hv⟩ := ho
  rcases hv with ⟨rfl, h0⟩ | ⟨g, cap, cur, rfl, hg, hh, hc, hm, hcs, ht⟩
  · exact Or.inl ⟨rfl, List.eq_nil_of_length_eq_zero h0⟩
  · refine Or.inr ⟨g, cap, rfl, hg, blk_lt hh, hc, by unfold maxLen at hm; omega, fun t ht' => ?_⟩
    have ht2 : t < xs.length * 8 := by simpa using ht'
    have hq : t / 8 < xs.length := by omega
    have hx : xs.toArray[t / 8]! = xs[t / 8] := by rw [getElem!_pos _ _ (by simpa using hq)]; simp
    have hrep := hr.2 (t / 8) xs[t / 8] (List.getElem?_eq_getElem hq)
    have hopen := k70_openM hrep
    have hsz : t < cur.size := by rw [hcs]; show t < cap * 8; omega
    have hcell : cur[t]? = some ((encP xs[t / 8])[t % 8]!) := by
      have e1 : ((inner.drop (t / 8 * 8)).take 8)[t % 8]? = some ((encP xs[t / 8])[t % 8]!) := by
        have : (inner.drop (t / 8 * 8)).take 8 = encP xs[t / 8] := hopen
        rw [this, getElem!_pos _ _ (by rw [encP_len]; exact Nat.mod_lt _ (by decide))]
        exact List.getElem?_eq_getElem _
      rw [List.getElem?_take_of_lt (Nat.mod_lt _ (by omega)), List.getElem?_drop, show t / 8 * 8 + t % 8 = t by omega, ← ht] at e1
      rw [List.getElem?_take_of_lt (by show t < xs.length * 8; exact ht2)] at e1
      rw [← Array.getElem?_toList]; exact e1
    rw [get_flatK _ _ _ _ (by simpa using ht2), hx, Nat.zero_add]
    exact ⟨(blk_cell hh t).trans hcell, blk_frozen hh t⟩
theorem holdsP_set {W : World} {blk : Nat} {d : Array S70} (h : HoldsK encP 8 W blk 0 d) (i : Nat) (x : S70) (hi : i < d.size) : HoldsK encP 8 (W.setCells blk (i * 8) (encP x)) blk 0 (d.setIfInBounds i x) := by
  have h1 := holds_setCells_c h (i * 8) (encP x) (by rw [encP_len, size_flatK]; omega)
  rw [Nat.zero_add] at h1
  have e : setMany (flatK encP 8 d) (i * 8) (encP x) = flatK encP 8 (d.setIfInBounds i x) := by
    refine ext_get! (by simp) fun t ht => ?_
    have ht' : t < d.size * 8 := by simpa using ht
    rw [get_setMany _ _ _ t (by simpa using ht'), get_flatK _ _ _ t ht', get_flatK _ _ _ t (by simpa using ht'), encP_len]
    have hq : t / 8 < d.size := by omega
    rw [getElem!_pos d _ hq, getElem!_pos (d.setIfInBounds i x) _ (by simpa using hq), Array.getElem_setIfInBounds (by simpa using hq)]
    by_cases hc : i * 8 ≤ t ∧ t < i * 8 + 8
    · rw [if_pos hc, if_pos (by omega), show t - i * 8 = t % 8 by omega]
    · rw [if_neg hc, if_neg (by omega)]
  show Holds id _ blk 0 _
  rw [← e]
  exact h1
theorem holdsP_take {W : World} {blk : Nat} {d : Array S70} (h : HoldsK encP 8 W blk 0 d) (i : Nat) (vs : List Value) (hi : i ≤ d.size) (hv : i * 8 + vs.length ≤ d.size * 8) : HoldsK encP 8 (W.setCells blk (i * 8) vs) blk 0 (d.toList.take i).toArray := by
  have h1 := holds_setCells_c h (i * 8) vs (by rw [size_flatK]; exact hv)
  rw [Nat.zero_add] at h1
  intro t ht
  have ht' : t < i * 8 := by have : (flatK encP 8 (d.toList.take i).toArray).size = i * 8 := by simp; omega
                             omega
  have h2 := h1 t (by simp; omega)
  have e : (setMany (flatK encP 8 d) (i * 8) vs)[t]! = (flatK encP 8 (d.toList.take i).toArray)[t]! := by
    rw [get_setMany _ _ _ t (by simp; omega), if_neg (by omega), get_flatK _ _ _ t (by omega), get_flatK _ _ _ t (by simp; omega)]
    have hq : t / 8 < i := by omega
    rw [getElem!_pos d _ (by omega), getElem!_pos (d.toList.take i).toArray _ (by simp; omega)]
    simp
  rw [← e]; exact h2
/-- What DeleteFunc's loop keeps: the first i are what was kept of the first j; from j on all is as it was. -/
def DelInv (p : S70 → Bool) (d : Array S70) (i j : Nat) (dk : Array S70) : Prop :=
  dk.size = d.size ∧ i < j ∧ j ≤ d.size ∧ dk.toList.take i = (d.toList.take j).filter (fun x => !p x) ∧ ∀ k, j ≤ k → dk[k]! = d[k]!
theorem DelInv.len {p : S70 → Bool} {d dk : Array S70} {i j : Nat} (h : DelInv p d i j dk) : ((d.toList.take j).filter (fun x => !p x)).length = i := by
  rw [← h.2.2.2.1, List.length_take]; have := h.1; simp; have := h.2.1; have := h.2.2.1; omega
theorem take_succ_get (d : Array S70) (j : Nat) (hj : j < d.size) : d.toList.take (j + 1) = d.toList.take j ++ [d[j]!] := by
  rw [List.take_succ_eq_append_getElem (by simpa using hj), getElem!_pos d j hj]; rfl
theorem DelInv.skip {p : S70 → Bool} {d dk : Array S70} {i j : Nat} (h : DelInv p d i j dk) (hj : j < d.size) (hp : p d[j]! = true) : DelInv p d i (j + 1) dk := by
  refine ⟨h.1, by have := h.2.1; omega, hj, ?_, fun k hk => h.2.2.2.2 k (by omega)⟩
  rw [take_succ_get d j hj, List.filter_append, h.2.2.2.1]; simp [hp]
theorem DelInv.keep {p : S70 → Bool} {d dk : Array S70} {i j : Nat} (h : DelInv p d i j dk) (hj : j < d.size) (hp : p d[j]! = false) : DelInv p d (i + 1) (j + 1) (dk.setIfInBounds i d[j]!) := by
  have h1 := h.1; have h2 := h.2.1
  refine ⟨by simp [h1], by omega, hj, ?_, fun k hk => ?_⟩
  · rw [take_succ_get d j hj, List.filter_append, ← h.2.2.2.1, take_succ_get _ i (by simp; omega)]
    have e1 : (dk.setIfInBounds i d[j]!)[i]! = d[j]! := by rw [getElem!_pos _ i (by simp; omega)]; simp
    rw [e1, Array.toList_setIfInBounds, List.take_set_of_le (Nat.le_refl _)]
    simp [hp]
  · rw [← h.2.2.2.2 k (by omega)]
    by_cases hk2 : k < dk.size
    · rw [getElem!_pos _ k (by simpa using hk2), getElem!_pos dk k hk2, Array.getElem_setIfInBounds (by simpa using hk2), if_neg (by omega)]
    · rw [getElem!_neg _ k (by simpa using hk2), getElem!_neg dk k hk2]
theorem idxP_spec (p : S70 → Bool) : ∀ (l : List S70) (i : Int), (idxP p l i = -1 + 0 * i ∧ l.filter (fun x => !p x) = l ∨ ∃ k : Nat, k < l.length ∧ idxP p l i = i + k ∧ p l[k]! = true ∧ (l.take k).filter (fun x => !p x) = l.take k)
  | [], i => Or.inl ⟨by simp [idxP], rfl⟩
  | x :: l, i => by
    cases hx : p x with
    | true => exact Or.inr ⟨0, by simp, by simp [idxP, hx], by simpa using hx, rfl⟩
    | false =>
      rcases idxP_spec p l (i + 1) with ⟨h1, h2⟩ | ⟨k, h1, h2, h3, h4⟩
      · exact Or.inl ⟨by simp [idxP, hx, h1], by rw [List.filter_cons, hx]; simp only [Bool.not_false, if_true, h2]⟩
      · exact Or.inr ⟨k + 1, by simpa using h1, by simp only [idxP, hx]; rw [if_neg (by simp), h2]; omega, by simpa using h3, by rw [List.take_succ_cons, List.filter_cons, hx]; simp only [Bool.not_false, if_true, h4]⟩
theorem DelInv.start {p : S70 → Bool} {d : Array S70} {k : Nat} (hk : k < d.size) (hp : p d.toList[k]! = true) (hf : (d.toList.take k).filter (fun x => !p x) = d.toList.take k) : DelInv p d k (k + 1) d := by
  have hx : d.toList[k]! = d[k]! := by rw [getElem!_pos d k hk, getElem!_pos d.toList k (by simpa using hk)]; simp
  rw [hx] at hp
  refine ⟨rfl, by omega, hk, ?_, fun _ _ => rfl⟩
  rw [take_succ_get d k hk, List.filter_append, hf]; simp [hp]
theorem boxed8 {W w1 : World} {x : S70} (hb : Below (W.alloc (Obj.cells #[.int .i64 x.f0, .int .i64 x.f1, .int .i64 x.f2, .int .u64 x.f3.f0, .int .u64 x.f3.f1, .int .u64 x.f3.f2, .int .u64 x.f3.f3, .int .i64 x.f4] 70)).heap.size (W.alloc (Obj.cells #[.int .i64 x.f0, .int .i64 x.f1, .int .i64 x.f2, .int .u64 x.f3.f0, .int .u64 x.f3.f1, .int .u64 x.f3.f2, .int .u64 x.f3.f3, .int .i64 x.f4] 70)) w1) :
    w1.cell? ⟨W.heap.size, 0, none⟩ = some (.int .i64 x.f0) ∧ w1.cell? ⟨W.heap.size, 1, none⟩ = some (.int .i64 x.f1) ∧ w1.cell? ⟨W.heap.size, 2, none⟩ = some (.int .i64 x.f2) ∧ w1.cell? ⟨W.heap.size, 3, none⟩ = some (.int .u64 x.f3.f0) ∧ w1.cell? ⟨W.heap.size, 4, none⟩ = some (.int .u64 x.f3.f1) ∧ w1.cell? ⟨W.heap.size, 5, none⟩ = some (.int .u64 x.f3.f2) ∧ w1.cell? ⟨W.heap.size, 6, none⟩ = some (.int .u64 x.f3.f3) ∧ w1.cell? ⟨W.heap.size, 7, none⟩ = some (.int .i64 x.f4) := by
  have h : ∀ j, w1.cell? ⟨W.heap.size, j, none⟩ = (W.alloc (Obj.cells #[.int .i64 x.f0, .int .i64 x.f1, .int .i64 x.f2, .int .u64 x.f3.f0, .int .u64 x.f3.f1, .int .u64 x.f3.f2, .int .u64 x.f3.f3, .int .i64 x.f4] 70)).cell? ⟨W.heap.size, j, none⟩ := fun j => hb.cell (p := ⟨W.heap.size, j, none⟩) (by simp)
  refine ⟨?_, ?_, ?_, ?_, ?_, ?_, ?_, ?_⟩ <;> (rw [h]; simp)
set_option maxHeartbeats 8000000 in
theorem deleteFunc_pod (g : Nat) (lb : Array Value) (p : S70 → Bool) (eg : ∀ args w, (callFunc g args).run Try.prog w = .ok (.enter g args) w) (blk cap : Nat) (d : Array S70) (w : World) (hH : HoldsK encP 8 w blk 0 d) (hblk : blk < w.heap.size) (hsz : d.size < 1000000000000) (hcap : d.size ≤ cap)
    (hp : ∀ W x, x ∈ d.toList → Below blk w W → Calls Try.prog g (#[podV x] ++ lb) W fun e w' => e = .returned (.bool (p x)) ∧ Below W.heap.size W w') :
    Calls Try.prog 90 #[.slice (some ⟨blk, 0, none⟩) d.size cap, .func (.func g) #[] lb] w fun e w' => e = .returned (.slice (some ⟨blk, 0, none⟩) (d.toList.filter fun x => !p x).length cap) ∧ HoldsK encP 8 w' blk 0 (d.toList.filter fun x => !p x).toArray ∧ Below blk w w' := by
  have hI := indexFunc_pod g lb p eg d.toList (some ⟨blk, 0, none⟩) cap w (by simpa using c_of_holds hH (by omega)) (fun W x hx hb => hp W x hx (hb.mono (by omega)))
  rw [Array.length_toList] at hI
  have HH := Aside0.mk hH
  have HP := Aside0.mk hp
  clear hH hp
  rcases idxP_spec p d.toList 0 with ⟨h1, h2⟩ | ⟨k0, h1, h2, h3, h4⟩
  · rw [h1] at hI
    rw [h2]
    clear h1 h2
    go_enter Try.func90, Try.ntmps90
    go_wp2_with (go_at_call 122; refine hI.mono ?_; rintro e w' ⟨rfl, hb⟩; have HB := Aside0.mk hb; clear hb)
    go_ret
    refine ⟨by simp, ?_, HB.out.mono (by omega)⟩
    simpa using holdsP_block HH.out (HB.out.block blk hblk)
  · rw [h2] at hI
    have hk0 : k0 < d.size := by simpa using h1
    have HI := Aside0.mk (DelInv.start hk0 h3 h4)
    have hne1 : ((0 : Int) + (k0 : Int) == -1) = false := beq_eq_false_iff_ne.2 (by omega)
    have hne2 : ((k0 : Int) == -1) = false := beq_eq_false_iff_ne.2 (by omega)
    have hI2 := Aside0.mk hI
    clear h1 h2 h3 h4 hI
    go_enter Try.func90, Try.ntmps90
    go_wp2_with (go_at_call 122; refine hI2.out.mono ?_; rintro e w' ⟨rfl, hb⟩; have HB := Aside0.mk hb; clear hb)
    go_loopg [5, 6, 7] d.size (fun gg s5 s6 _ wr => ∃ (i j : Nat) (dk : Array S70), s5 = .int .i64 i ∧ s6 = .int .i64 j ∧ i < j ∧ j ≤ d.size ∧ d.size - j ≤ gg ∧ Aside0 (DelInv p d i j dk) ∧ Aside0 (HoldsK encP 8 wr blk 0 dk) ∧ Aside0 (Below blk w wr))
    case atStart => exact ⟨k0, k0 + 1, d, by go_num, by go_num, by omega, by omega, by omega, HI, ⟨holdsP_block HH.out (HB.out.block blk hblk)⟩, ⟨HB.out.mono (by omega)⟩⟩
    case round =>
      obtain ⟨i, j, dk, rfl, rfl, hij, hjd, hgg, I2, H2, B2⟩ := hrel
      have hsz2 : dk.size = d.size := I2.out.1
      have hblr : blk < wr.heap.size := Nat.lt_of_lt_of_le hblk B2.out.size
      by_cases hlt : j < d.size
      · have hltz : (j : Int) < (d.size : Int) := by omega
        have hltz2 : (i : Int) < (d.size : Int) := by omega
        obtain ⟨x, hx⟩ : ∃ x, d[j]! = x := ⟨_, rfl⟩
        obtain ⟨⟨la0, la1, la2, la3, la4, la5, la6, la7⟩, -⟩ := cells8 H2.out (i := j) (by omega) ((I2.out.2.2.2.2 j (Nat.le_refl _)).trans hx)
        have hm : x ∈ d.toList := by
          rw [← hx, getElem!_pos d j hlt, Array.mem_toList_iff]
          exact Array.getElem_mem hlt
        have HX := Aside0.mk hx
        have HM := Aside0.mk hm
        have HS2 := Aside0.mk hsz2
        clear hx hm hsz2
        cases hpx : p x with
        | false =>
          have HPX := Aside0.mk hpx
          have hc := fun W => HP.out W x HM.out
          rw [hpx] at hc
          have HC := Aside0.mk hc
          clear hpx hc
          have hb1 : Below blk w (wr.alloc (Obj.cells #[.int .i64 x.f0, .int .i64 x.f1, .int .i64 x.f2, .int .u64 x.f3.f0, .int .u64 x.f3.f1, .int .u64 x.f3.f2, .int .u64 x.f3.f3, .int .i64 x.f4] 70)) := B2.out.alloc (Nat.le_of_lt hblr) _
          have HB1 := Aside0.mk hb1
          clear hb1
          unfold podV at HC
          have HHB := Aside0.mk hblr
          have hsi : i < dk.size := by have := HS2.out; omega
          have HSI := Aside0.mk hsi
          clear hsi
          go_wp2_with (go_at_fn g; refine (HC.out _ HB1.out).mono ?_; rintro e w1 ⟨rfl, hb⟩; obtain ⟨lb0, lb1, lb2, lb3, lb4, lb5, lb6, lb7⟩ := boxed8 hb; have HH1 := Aside0.mk (holdsP_block H2.out ((hb.block blk (by have := HHB.out; simp; omega)).trans (Below.heap_alloc _ _ _ HHB.out))); have HB3 := Aside0.mk (HB1.out.trans (hb.mono (by have := HHB.out; simp; omega))); clear hb; obtain ⟨y, hy⟩ : ∃ y, dk[i]! = y := ⟨_, rfl⟩; obtain ⟨⟨ld0, ld1, ld2, ld3, ld4, ld5, ld6, ld7⟩, fd0, fd1, fd2, fd3, fd4, fd5, fd6, fd7⟩ := cells8 HH1.out HSI.out hy; have HY := Aside0.mk hy; clear hy)
          go_roundg (d.size - (j + 1))
          case measure => omega
          case rel =>
            refine ⟨i + 1, j + 1, dk.setIfInBounds i x, by go_num, by go_num, by omega, by omega, Nat.le_refl _, ⟨?_⟩, ⟨?_⟩, ⟨?_⟩⟩
            · rw [← HX.out]; exact I2.out.keep hlt (by rw [HX.out]; exact HPX.out)
            · rw [← set8]; exact holdsP_set HH1.out i x HSI.out
            · rw [← set8]; exact below_setCells (Nat.le_refl _) _ _ _ HB3.out
        | true =>
          have HPX := Aside0.mk hpx
          have hc := fun W => HP.out W x HM.out
          rw [hpx] at hc
          have HC := Aside0.mk hc
          clear hpx hc
          have hb1 : Below blk w (wr.alloc (Obj.cells #[.int .i64 x.f0, .int .i64 x.f1, .int .i64 x.f2, .int .u64 x.f3.f0, .int .u64 x.f3.f1, .int .u64 x.f3.f2, .int .u64 x.f3.f3, .int .i64 x.f4] 70)) := B2.out.alloc (Nat.le_of_lt hblr) _
          have HB1 := Aside0.mk hb1
          clear hb1
          unfold podV at HC
          have HHB := Aside0.mk hblr
          go_wp2_with (go_at_fn g; refine (HC.out _ HB1.out).mono ?_; rintro e w1 ⟨rfl, hb⟩; have HH1 := Aside0.mk (holdsP_block H2.out ((hb.block blk (by have := HHB.out; simp; omega)).trans (Below.heap_alloc _ _ _ HHB.out))); have HB3 := Aside0.mk (HB1.out.trans (hb.mono (by have := HHB.out; simp; omega))); clear hb)
          go_roundg (d.size - (j + 1))
          case measure => omega
          case rel => exact ⟨i, j + 1, dk, rfl, by go_num, by omega, by omega, Nat.le_refl _, ⟨I2.out.skip hlt (by rw [HX.out]; exact HPX.out)⟩, HH1, HB3⟩
      · obtain rfl : j = d.size := by omega
        have hltz : ¬ (d.size : Int) < (d.size : Int) := by omega
        have hin : i < d.size := by omega
        have hic : (i : Int) ≤ (cap : Int) := by omega
        obtain ⟨vs, hvl, hcl⟩ := clear_pods wr blk (i * 8) (d.size - i) (cap - i) (by omega) (fun t ht => by
          have := (H2.out (i * 8 + t) (by rw [size_flatK]; omega)).1
          rw [Nat.zero_add] at this; rw [this]; rfl) (fun t ht => by
          have := (H2.out (i * 8 + t) (by rw [size_flatK]; omega)).2
          rw [Nat.zero_add] at this; exact this)
        have HVL := Aside0.mk hvl
        have HS2 := Aside0.mk hsz2
        clear hvl hsz2
        go_wp2
        go_ret
        have hlen := I2.out.len
        have htk := I2.out.2.2.2.1
        rw [show d.toList.take d.size = d.toList from List.take_of_length_le (by simp)] at hlen htk
        refine ⟨by rw [hlen]; rfl, ?_, below_setCells (Nat.le_refl _) _ _ _ B2.out⟩
        rw [← htk]
        exact holdsP_take H2.out i vs (by rw [HS2.out]; omega) (by rw [HVL.out, HS2.out]; omega)
end Go.Proofs.Ytppfkbigeknedaa.Q
