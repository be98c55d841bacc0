/- slices.DeleteFunc of pods and prior.Victims, by hand. -/
import Derived.Test.YtppfkbigeknedaaVSorts
import Derived.Test.YtppfkbigeknedaaVQstateplace
import Derived.Lib.SliceRun
import Derived.Test.YtppfkbigeknedaaVQstatePod
import Derived.Test.YtppfkbigeknedaaVQapiPod91
namespace Go.Proofs.Ytppfkbigeknedaa.Q
open Go.Shelf Go.RowKit Go.Lib Go.Proofs.YtppfkbigeknedaaW.PrintWords
open Go.Sort hiding Below
set_option linter.unusedVariables false
set_option linter.unusedSimpArgs false
set_option maxRecDepth 100000
theorem clear_pods (W : World) (b o n c : Nat) (hn : 0 < n) (hc : ∀ j, j < n * 8 → (W.cell? ⟨b, o + j, none⟩).isSome = true) (hf : ∀ j, j < n * 8 → W.frozen? ⟨b, o + j, none⟩ = false) :
    ∃ vs : List Value, vs.length = n * 8 ∧ ∀ ty, (Builtin.clear_ #[24] ty #[.slice (some ⟨b, o, none⟩) n c]).run Try.prog W = .ok (.tuple #[]) (W.setCells b o vs) := by
  have hst := fun (vs : List Value) (hl : vs.length = n * 8) (h1 : ∀ v ∈ vs, v.oneCell' = true) => run_storeCells_cells (P := Try.prog) b o vs 0 W (by rw [hl]; simpa using hc) (by rw [hl]; simpa using hf) h1
  simp only [Nat.add_zero] at hst
  obtain ⟨m, rfl⟩ : ∃ m, n = m + 1 := ⟨n - 1, by omega⟩
  refine ⟨(Builtin.zeroCells (Value.cells (.agg #[(.int .i64 0), (.int .i64 0), (.int .i64 0), (.int .u64 0), (.int .u64 0), (.int .u64 0), (.int .u64 0), (.int .i64 0)])) (m + 1)).toList, ?_, ?_⟩
  · simp [Builtin.zeroCells, Value.cells]
  · intro ty
    have h := hst (Builtin.zeroCells (Value.cells (.agg #[(.int .i64 0), (.int .i64 0), (.int .i64 0), (.int .u64 0), (.int .u64 0), (.int .u64 0), (.int .u64 0), (.int .i64 0)])) (m + 1)).toList (by simp [Builtin.zeroCells, Value.cells]) (by
      intro v hv
      simp [Builtin.zeroCells, Value.cells] at hv
      obtain ⟨i, hi, rfl⟩ := hv
      have : i % 8 < 8 := Nat.mod_lt _ (by omega)
      generalize i % 8 = t at this ⊢
      rcases (show t = 0 ∨ t = 1 ∨ t = 2 ∨ t = 3 ∨ t = 4 ∨ t = 5 ∨ t = 6 ∨ t = 7 by omega) with rfl | rfl | rfl | rfl | rfl | rfl | rfl | rfl <;> rfl)
    simp [Builtin.clear_, run_underlying Try.underlying24, Try.zeroValue70, h]
theorem holdsP_block {W W' : World} {blk : Nat} {d : Array S70} (h : HoldsK encP 8 W blk 0 d) (hb : W'.heap[blk]? = W.heap[blk]?) : HoldsK encP 8 W' blk 0 d :=
  fun j hj => ⟨by rw [World.cell?_of_block (w := W) hb]; exact (h j hj).1, by rw [World.frozen?_of_block (w := W) hb]; exact (h j hj).2⟩
theorem setCells_far (b : Nat) : ∀ (vs : List Value) (o : Nat) (W : World) (k : Nat), k ≠ b → (W.setCells b o vs).heap[k]? = W.heap[k]?
  | [], _, _, _, _ => rfl
  | v :: r, o, W, k, h => by rw [World.setCells, setCells_far b r _ _ k h]; exact Below.heap_setCell W ⟨b, o, none⟩ v k h
theorem below_setCells {B b : Nat} {w0 : World} (hB : B ≤ b) : ∀ (vs : List Value) (o : Nat) (W : World), Below B w0 W → Below B w0 (W.setCells b o vs)
  | [], _, _, h => h
  | v :: r, o, W, h => by rw [World.setCells]; exact below_setCells hB r _ _ (h.setCell (p := ⟨b, o, none⟩) hB v)
theorem c_of_holds {W : World} {blk : Nat} {d : Array S70} (h : HoldsK encP 8 W blk 0 d) (hm : d.size ≤ 9223372036854775807) : Kd.C k70 W (some ⟨blk, 0, none⟩) d.size d.toList := by
  refine ⟨by simp, hm, fun _ => ⟨_, rfl, fun j x hj => ⟨encP x, rfl, k70_mk W x, fun i u hu => ?_⟩⟩⟩
  have hj' : j < d.size := by simpa using (List.getElem?_eq_some_iff.1 hj).1
  have hx : d[j]! = x := by rw [getElem!_pos d j hj']; have := (List.getElem?_eq_some_iff.1 hj).2; simpa using this
  have hi : i < 8 := (List.getElem?_eq_some_iff.1 hu).1
  have hc := (HoldsK.cell h hj' hi).1
  rw [hx] at hc
  show W.cell? ((⟨blk, 0, none⟩ : Addr).add (j * 8 + i)) = some u
  rw [show (⟨blk, 0, none⟩ : Addr).add (j * 8 + i) = ⟨blk, 0 + j * 8 + i, none⟩ by rw [Addr.add_lit, Nat.add_assoc]]
  rw [hc, getElem!_pos (encP x) i hi]
  exact congrArg some (List.getElem?_eq_some_iff.1 hu).2
theorem holds_of_R {W : World} {base : Nat} {ok : Nat → Prop} {v : Value} {xs : List S70} (h : Kd.R k70 70 W base ok v xs) : (v = .slice none 0 0 ∧ xs = []) ∨ ∃ blk cap, v = .slice (some ⟨blk, 0, none⟩) xs.length cap ∧ base ≤ blk ∧ blk < W.heap.size ∧ xs.length ≤ cap ∧ xs.length ≤ 9223372036854775807 ∧ HoldsK encP 8 W blk 0 xs.toArray := by
  obtain ⟨_, inner, ho, hr⟩ := h
  obtain ⟨hl, hv⟩ := ho
  rcases hv with ⟨rfl, h0⟩ | ⟨g, cap, cur, rfl, hg, hh, hc, hm, hcs, ht⟩
  · exact Or.inl ⟨rfl, List.eq_nil_of_length_eq_zero h0⟩
  · refine Or.inr ⟨g, cap, rfl, hg, blk_lt hh, hc, by unfold maxLen at hm; omega, fun t ht' => ?_⟩
    have ht2 : t < xs.length * 8 := by simpa using ht'
    have hq : t / 8 < xs.length := by omega
    have hx : xs.toArray[t / 8]! = xs[t / 8] := by rw [getElem!_pos _ _ (by simpa using hq)]; simp
    have hrep := hr.2 (t / 8) xs[t / 8] (List.getElem?_eq_getElem hq)
    have hopen := k70_openM hrep
    have hsz : t < cur.size := by rw [hcs]; show t < cap * 8; omega
    have hcell : cur[t]? = some ((encP xs[t / 8])[t % 8]!) := by
      have e1 : ((inner.drop (t / 8 * 8)).take 8)[t % 8]? = some ((encP xs[t / 8])[t % 8]!) := by
        have : (inner.drop (t / 8 * 8)).take 8 = encP xs[t / 8] := hopen
        rw [this, getElem!_pos _ _ (by rw [encP_len]; exact Nat.mod_lt _ (by decide))]
        exact List.getElem?_eq_getElem _
      rw [List.getElem?_take_of_lt (Nat.mod_lt _ (by omega)), List.getElem?_drop, show t / 8 * 8 + t % 8 = t by omega, ← ht] at e1
      rw [List.getElem?_take_of_lt (by show t < xs.length * 8; exact ht2)] at e1
      rw [← Array.getElem?_toList]; exact e1
    rw [get_flatK _ _ _ _ (by simpa using ht2), hx, Nat.zero_add]
    exact ⟨(blk_cell hh t).trans hcell, blk_frozen hh t⟩
theorem holdsP_set {W : World} {blk : Nat} {d : Array S70} (h : HoldsK encP 8 W blk 0 d) (i : Nat) (x : S70) (hi : i < d.size) : HoldsK encP 8 (W.setCells blk (i * 8) (encP x)) blk 0 (d.setIfInBounds i x) := by
  have h1 := holds_setCells_c h (i * 8) (encP x) (by rw [encP_len, size_flatK]; omega)
  rw [Nat.zero_add] at h1
  have e : setMany (flatK encP 8 d) (i * 8) (encP x) = flatK encP 8 (d.setIfInBounds i x) := by
    refine ext_get! (by simp) fun t ht => ?_
    have ht' : t < d.size * 8 := by simpa using ht
    rw [get_setMany _ _ _ t (by simpa using ht'), get_flatK _ _ _ t ht', get_flatK _ _ _ t (by simpa using ht'), encP_len]
    have hq : t / 8 < d.size := by omega
    rw [getElem!_pos d _ hq, getElem!_pos (d.setIfInBounds i x) _ (by simpa using hq), Array.getElem_setIfInBounds (by simpa using hq)]
    by_cases hc : i * 8 ≤ t ∧ t < i * 8 + 8
    · rw [if_pos hc, if_pos (by omega), show t - i * 8 = t % 8 by omega]
    · rw [if_neg hc, if_neg (by omega)]
  show Holds id _ blk 0 _
  rw [← e]
  exact h1
theorem holdsP_take {W : World} {blk : Nat} {d : Array S70} (h : HoldsK encP 8 W blk 0 d) (i : Nat) (vs : List Value) (hi : i ≤ d.size) (hv : i * 8 + vs.length ≤ d.size * 8) : HoldsK encP 8 (W.setCells blk (i * 8) vs) blk 0 (d.toList.take i).toArray := by
  have h1 := holds_setCells_c h (i * 8) vs (by rw [size_flatK]; exact hv)
  rw [Nat.zero_add] at h1
  intro t ht
  have ht' : t < i * 8 := by have : (flatK encP 8 (d.toList.take i).toArray).size = i * 8 := by simp; omega
                             omega
  have h2 := h1 t (by simp; omega)
  have e : (setMany (flatK encP 8 d) (i * 8) vs)[t]! = (flatK encP 8 (d.toList.take i).toArray)[t]! := by
    rw [get_setMany _ _ _ t (by simp; omega), if_neg (by omega), get_flatK _ _ _ t (by omega), get_flatK _ _ _ t (by simp; omega)]
    have hq : t / 8 < i := by omega
    rw [getElem!_pos d _ (by omega), getElem!_pos (d.toList.take i).toArray _ (by simp; omega)]
    simp
  rw [← e]; exact h2
def DelInv (p : S70 → Bool) (d : Array S70) (i j : Nat) (dk : Array S70) : Prop :=
  dk.size = d.size ∧ i < j ∧ j ≤ d.size ∧ dk.toList.take i = (d.toList.take j).filter (fun x => !p x) ∧ ∀ k, j ≤ k → dk[k]! = d[k]!
theorem DelInv.len {p : S70 → Bool} {d dk : Array S70} {i j : Nat} (h : DelInv p d i j dk) : ((d.toList.take j).filter (fun x => !p x)).length = i := by
  rw [← h.2.2.2.1, List.length_take]; have := h.1; simp; have := h.2.1; have := h.2.2.1; omega
theorem take_succ_get (d : Array S70) (j : Nat) (hj : j < d.size) : d.toList.take (j + 1) = d.toList.take j ++ [d[j]!] := by
  rw [List.take_succ_eq_append_getElem (by simpa using hj), getElem!_pos d j hj]; rfl
theorem DelInv.skip {p : S70 → Bool} {d dk : Array S70} {i j : Nat} (h : DelInv p d i j dk) (hj : j < d.size) (hp : p d[j]! = true) : DelInv p d i (j + 1) dk := by
  refine ⟨h.1, by have := h.2.1; omega, hj, ?_, fun k hk => h.2.2.2.2 k (by omega)⟩
  rw [take_succ_get d j hj, List.filter_append, h.2.2.2.1]; simp [hp]
theorem DelInv.keep {p : S70 → Bool} {d dk : Array S70} {i j : Nat} (h : DelInv p d i j dk) (hj : j < d.size) (hp : p d[j]! = false) : DelInv p d (i + 1) (j + 1) (dk.setIfInBounds i d[j]!) := by
  have h1 := h.1; have h2 := h.2.1
  refine ⟨by simp [h1], by omega, hj, ?_, fun k hk => ?_⟩
  · rw [take_succ_get d j hj, List.filter_append, ← h.2.2.2.1, take_succ_get _ i (by simp; omega)]
    have e1 : (dk.setIfInBounds i d[j]!)[i]! = d[j]! := by rw [getElem!_pos _ i (by simp; omega)]; simp
    rw [e1, Array.toList_setIfInBounds, List.take_set_of_le (Nat.le_refl _)]
    simp [hp]
  · rw [← h.2.2.2.2 k (by omega)]
    by_cases hk2 : k < dk.size
    · rw [getElem!_pos _ k (by simpa using hk2), getElem!_pos dk k hk2, Array.getElem_setIfInBounds (by simpa using hk2), if_neg (by omega)]
    · rw [getElem!_neg _ k (by simpa using hk2), getElem!_neg dk k hk2]
theorem idxP_spec (p : S70 → Bool) : ∀ (l : List S70) (i : Int), (idxP p l i = -1 + 0 * i ∧ l.filter (fun x => !p x) = l ∨ ∃ k : Nat, k < l.length ∧ idxP p l i = i + k ∧ p l[k]! = true ∧ (l.take k).filter (fun x => !p x) = l.take k)
  | [], i => Or.inl ⟨by simp [idxP], rfl⟩
  | x :: l, i => by
    cases hx : p x with
    | true => exact Or.inr ⟨0, by simp, by simp [idxP, hx], by simpa using hx, rfl⟩
    | false =>
      rcases idxP_spec p l (i + 1) with ⟨h1, h2⟩ | ⟨k, h1, h2, h3, h4⟩
      · exact Or.inl ⟨by simp [idxP, hx, h1], by rw [List.filter_cons, hx]; simp only [Bool.not_false, if_true, h2]⟩
      · exact Or.inr ⟨k + 1, by simpa using h1, by simp only [idxP, hx]; rw [if_neg (by simp), h2]; omega, by simpa using h3, by rw [List.take_succ_cons, List.filter_cons, hx]; simp only [Bool.not_false, if_true, h4]⟩
theorem DelInv.start {p : S70 → Bool} {d : Array S70} {k : Nat} (hk : k < d.size) (hp : p d.toList[k]! = true) (hf : (d.toList.take k).filter (fun x => !p x) = d.toList.take k) : DelInv p d k (k + 1) d := by
  have hx : d.toList[k]! = d[k]! := by rw [getElem!_pos d k hk, getElem!_pos d.toList k (by simpa using hk)]; simp
  rw [hx] at hp
  refine ⟨rfl, by omega, hk, ?_, fun _ _ => rfl⟩
  rw [take_succ_get d k hk, List.filter_append, hf]; simp [hp]
def Only (w W : World) (blk : Nat) : Prop := ∀ k, k < w.heap.size → k ≠ blk → W.heap[k]? = w.heap[k]?
theorem Only.refl (w : World) (blk : Nat) : Only w w blk := fun _ _ _ => rfl
theorem Only.below {w W W1 : World} {blk : Nat} (h : Only w W blk) (hs : w.heap.size ≤ W.heap.size) (hb : Below W.heap.size W W1) : Only w W1 blk := fun k hk hn => (hb.block k (by omega)).trans (h k hk hn)
theorem Only.alloc {w W : World} {blk : Nat} (h : Only w W blk) (hs : w.heap.size ≤ W.heap.size) (o : Obj) : Only w (W.alloc o) blk := fun k hk hn => (Below.heap_alloc W o k (by omega)).trans (h k hk hn)
theorem Only.setCells {w W : World} {blk : Nat} (h : Only w W blk) (o : Nat) (vs : List Value) : Only w (W.setCells blk o vs) blk := fun k hk hn => (setCells_far blk vs o W k hn).trans (h k hk hn)
theorem boxed8 {W w1 : World} {x : S70} (hb : Below (W.alloc (Obj.cells #[.int .i64 x.f0, .int .i64 x.f1, .int .i64 x.f2, .int .u64 x.f3.f0, .int .u64 x.f3.f1, .int .u64 x.f3.f2, .int .u64 x.f3.f3, .int .i64 x.f4] 70)).heap.size (W.alloc (Obj.cells #[.int .i64 x.f0, .int .i64 x.f1, .int .i64 x.f2, .int .u64 x.f3.f0, .int .u64 x.f3.f1, .int .u64 x.f3.f2, .int .u64 x.f3.f3, .int .i64 x.f4] 70)) w1) :
    w1.cell? ⟨W.heap.size, 0, none⟩ = some (.int .i64 x.f0) ∧ w1.cell? ⟨W.heap.size, 1, none⟩ = some (.int .i64 x.f1) ∧ w1.cell? ⟨W.heap.size, 2, none⟩ = some (.int .i64 x.f2) ∧ w1.cell? ⟨W.heap.size, 3, none⟩ = some (.int .u64 x.f3.f0) ∧ w1.cell? ⟨W.heap.size, 4, none⟩ = some (.int .u64 x.f3.f1) ∧ w1.cell? ⟨W.heap.size, 5, none⟩ = some (.int .u64 x.f3.f2) ∧ w1.cell? ⟨W.heap.size, 6, none⟩ = some (.int .u64 x.f3.f3) ∧ w1.cell? ⟨W.heap.size, 7, none⟩ = some (.int .i64 x.f4) := by
  have h : ∀ j, w1.cell? ⟨W.heap.size, j, none⟩ = (W.alloc (Obj.cells #[.int .i64 x.f0, .int .i64 x.f1, .int .i64 x.f2, .int .u64 x.f3.f0, .int .u64 x.f3.f1, .int .u64 x.f3.f2, .int .u64 x.f3.f3, .int .i64 x.f4] 70)).cell? ⟨W.heap.size, j, none⟩ := fun j => hb.cell (p := ⟨W.heap.size, j, none⟩) (by simp)
  refine ⟨?_, ?_, ?_, ?_, ?_, ?_, ?_, ?_⟩ <;> (rw [h]; simp)
set_option maxHeartbeats 8000000 in
theorem deleteFunc_pod (g : Nat) (lb : Array Value) (p : S70 → Bool) (eg : ∀ args w, (callFunc g args).run Try.prog w = .ok (.enter g args) w) (blk cap : Nat) (d : Array S70) (w : World) (hH : HoldsK encP 8 w blk 0 d) (hblk : blk < w.heap.size) (hsz : d.size < 1000000000000) (hcap : d.size ≤ cap)
    (hp : ∀ W x, x ∈ d.toList → Below blk w W → Calls Try.prog g (#[podV x] ++ lb) W fun e w' => e = .returned (.bool (p x)) ∧ Below W.heap.size W w') :
    Calls Try.prog 90 #[.slice (some ⟨blk, 0, none⟩) d.size cap, .func (.func g) #[] lb] w fun e w' => e = .returned (.slice (some ⟨blk, 0, none⟩) (d.toList.filter fun x => !p x).length cap) ∧ HoldsK encP 8 w' blk 0 (d.toList.filter fun x => !p x).toArray ∧ Below blk w w' ∧ Only w w' blk := by
  have hI := indexFunc_pod g lb p eg d.toList (some ⟨blk, 0, none⟩) cap w (by simpa using c_of_holds hH (by omega)) (fun W x hx hb => hp W x hx (hb.mono (by omega)))
  rw [Array.length_toList] at hI
  have HH := Aside0.mk hH
  have HP := Aside0.mk hp
  clear hH hp
  rcases idxP_spec p d.toList 0 with ⟨h1, h2⟩ | ⟨k0, h1, h2, h3, h4⟩
  · rw [h1] at hI
    rw [h2]
    clear h1 h2
    go_enter Try.func90, Try.ntmps90
    go_wp2_with (go_at_call 122; refine hI.mono ?_; rintro e w' ⟨rfl, hb⟩; have HB := Aside0.mk hb; clear hb)
    go_ret
    refine ⟨by simp, ?_, HB.out.mono (by omega), (Only.refl w blk).below (Nat.le_refl _) HB.out⟩
    simpa using holdsP_block HH.out (HB.out.block blk hblk)
  · rw [h2] at hI
    have hk0 : k0 < d.size := by simpa using h1
    have HI := Aside0.mk (DelInv.start hk0 h3 h4)
    have hne1 : ((0 : Int) + (k0 : Int) == -1) = false := beq_eq_false_iff_ne.2 (by omega)
    have hne2 : ((k0 : Int) == -1) = false := beq_eq_false_iff_ne.2 (by omega)
    have hI2 := Aside0.mk hI
    clear h1 h2 h3 h4 hI
    go_enter Try.func90, Try.ntmps90
    go_wp2_with (go_at_call 122; refine hI2.out.mono ?_; rintro e w' ⟨rfl, hb⟩; have HB := Aside0.mk hb; clear hb)
    go_loopg [5, 6, 7] d.size (fun gg s5 s6 _ wr => ∃ (i j : Nat) (dk : Array S70), s5 = .int .i64 i ∧ s6 = .int .i64 j ∧ i < j ∧ j ≤ d.size ∧ d.size - j ≤ gg ∧ Aside0 (DelInv p d i j dk) ∧ Aside0 (HoldsK encP 8 wr blk 0 dk) ∧ Aside0 (Below blk w wr) ∧ Aside0 (Only w wr blk))
    case atStart => exact ⟨k0, k0 + 1, d, by go_num, by go_num, by omega, by omega, by omega, HI, ⟨holdsP_block HH.out (HB.out.block blk hblk)⟩, ⟨HB.out.mono (by omega)⟩, ⟨(Only.refl w blk).below (Nat.le_refl _) HB.out⟩⟩
    case round =>
      obtain ⟨i, j, dk, rfl, rfl, hij, hjd, hgg, I2, H2, B2, K2⟩ := hrel
      have hsz2 : dk.size = d.size := I2.out.1
      have hblr : blk < wr.heap.size := Nat.lt_of_lt_of_le hblk B2.out.size
      by_cases hlt : j < d.size
      · have hltz : (j : Int) < (d.size : Int) := by omega
        have hltz2 : (i : Int) < (d.size : Int) := by omega
        obtain ⟨x, hx⟩ : ∃ x, d[j]! = x := ⟨_, rfl⟩
        obtain ⟨⟨la0, la1, la2, la3, la4, la5, la6, la7⟩, -⟩ := cells8 H2.out (i := j) (by omega) ((I2.out.2.2.2.2 j (Nat.le_refl _)).trans hx)
        have hm : x ∈ d.toList := by
          rw [← hx, getElem!_pos d j hlt, Array.mem_toList_iff]
          exact Array.getElem_mem hlt
        have HX := Aside0.mk hx
        have HM := Aside0.mk hm
        have HS2 := Aside0.mk hsz2
        clear hx hm hsz2
        cases hpx : p x with
        | false =>
          have HPX := Aside0.mk hpx
          have hc := fun W => HP.out W x HM.out
          rw [hpx] at hc
          have HC := Aside0.mk hc
          clear hpx hc
          have hb1 : Below blk w (wr.alloc (Obj.cells #[.int .i64 x.f0, .int .i64 x.f1, .int .i64 x.f2, .int .u64 x.f3.f0, .int .u64 x.f3.f1, .int .u64 x.f3.f2, .int .u64 x.f3.f3, .int .i64 x.f4] 70)) := B2.out.alloc (Nat.le_of_lt hblr) _
          have HB1 := Aside0.mk hb1
          clear hb1
          unfold podV at HC
          have HHB := Aside0.mk hblr
          have hsi : i < dk.size := by have := HS2.out; omega
          have HSI := Aside0.mk hsi
          clear hsi
          go_wp2_with (go_at_fn g; refine (HC.out _ HB1.out).mono ?_; rintro e w1 ⟨rfl, hb⟩; obtain ⟨lb0, lb1, lb2, lb3, lb4, lb5, lb6, lb7⟩ := boxed8 hb; have HH1 := Aside0.mk (holdsP_block H2.out ((hb.block blk (by have := HHB.out; simp; omega)).trans (Below.heap_alloc _ _ _ HHB.out))); have HB3 := Aside0.mk (HB1.out.trans (hb.mono (by have := HHB.out; simp; omega))); have HK3 := Aside0.mk ((K2.out.alloc B2.out.size _).below (Nat.le_trans B2.out.size (Below.alloc (Below.refl 0 _) (Nat.zero_le _) _).size) hb); clear hb; obtain ⟨y, hy⟩ : ∃ y, dk[i]! = y := ⟨_, rfl⟩; obtain ⟨⟨ld0, ld1, ld2, ld3, ld4, ld5, ld6, ld7⟩, fd0, fd1, fd2, fd3, fd4, fd5, fd6, fd7⟩ := cells8 HH1.out HSI.out hy; have HY := Aside0.mk hy; clear hy)
          go_roundg (d.size - (j + 1))
          case measure => omega
          case rel =>
            refine ⟨i + 1, j + 1, dk.setIfInBounds i x, by go_num, by go_num, by omega, by omega, Nat.le_refl _, ⟨?_⟩, ⟨?_⟩, ⟨?_⟩, ⟨?_⟩⟩
            · rw [← HX.out]; exact I2.out.keep hlt (by rw [HX.out]; exact HPX.out)
            · rw [← set8]; exact holdsP_set HH1.out i x HSI.out
            · rw [← set8]; exact below_setCells (Nat.le_refl _) _ _ _ HB3.out
            · rw [← set8]; exact HK3.out.setCells _ _
        | true =>
          have HPX := Aside0.mk hpx
          have hc := fun W => HP.out W x HM.out
          rw [hpx] at hc
          have HC := Aside0.mk hc
          clear hpx hc
          have hb1 : Below blk w (wr.alloc (Obj.cells #[.int .i64 x.f0, .int .i64 x.f1, .int .i64 x.f2, .int .u64 x.f3.f0, .int .u64 x.f3.f1, .int .u64 x.f3.f2, .int .u64 x.f3.f3, .int .i64 x.f4] 70)) := B2.out.alloc (Nat.le_of_lt hblr) _
          have HB1 := Aside0.mk hb1
          clear hb1
          unfold podV at HC
          have HHB := Aside0.mk hblr
          go_wp2_with (go_at_fn g; refine (HC.out _ HB1.out).mono ?_; rintro e w1 ⟨rfl, hb⟩; have HH1 := Aside0.mk (holdsP_block H2.out ((hb.block blk (by have := HHB.out; simp; omega)).trans (Below.heap_alloc _ _ _ HHB.out))); have HB3 := Aside0.mk (HB1.out.trans (hb.mono (by have := HHB.out; simp; omega))); have HK3 := Aside0.mk ((K2.out.alloc B2.out.size _).below (Nat.le_trans B2.out.size (Below.alloc (Below.refl 0 _) (Nat.zero_le _) _).size) hb); clear hb)
          go_roundg (d.size - (j + 1))
          case measure => omega
          case rel => exact ⟨i, j + 1, dk, rfl, by go_num, by omega, by omega, Nat.le_refl _, ⟨I2.out.skip hlt (by rw [HX.out]; exact HPX.out)⟩, HH1, HB3, HK3⟩
      · obtain rfl : j = d.size := by omega
        have hltz : ¬ (d.size : Int) < (d.size : Int) := by omega
        have hin : i < d.size := by omega
        have hic : (i : Int) ≤ (cap : Int) := by omega
        obtain ⟨vs, hvl, hcl⟩ := clear_pods wr blk (i * 8) (d.size - i) (cap - i) (by omega) (fun t ht => by
          have := (H2.out (i * 8 + t) (by rw [size_flatK]; omega)).1
          rw [Nat.zero_add] at this; rw [this]; rfl) (fun t ht => by
          have := (H2.out (i * 8 + t) (by rw [size_flatK]; omega)).2
          rw [Nat.zero_add] at this; exact this)
        have HVL := Aside0.mk hvl
        have HS2 := Aside0.mk hsz2
        clear hvl hsz2
        go_wp2
        go_ret
        have hlen := I2.out.len
        have htk := I2.out.2.2.2.1
        rw [show d.toList.take d.size = d.toList from List.take_of_length_le (by simp)] at hlen htk
        refine ⟨by rw [hlen]; rfl, ?_, below_setCells (Nat.le_refl _) _ _ _ B2.out, K2.out.setCells _ _⟩
        rw [← htk]
        exact holdsP_take H2.out i vs (by rw [HS2.out]; omega) (by rw [HVL.out, HS2.out]; omega)
end Go.Proofs.Ytppfkbigeknedaa.Q
namespace Go.Proofs.Ytppfkbigeknedaa.Q
open Go.Shelf Go.RowKit Go.Lib Go.Proofs.YtppfkbigeknedaaW.PrintWords Go.Proofs.YtppfkbigeknedaaW.PrintLast Go.Proofs.YtppfkbigeknedaaW.PrintMore
open Go.Sort hiding Below
set_option linter.unusedVariables false
set_option linter.unusedSimpArgs false
set_option maxRecDepth 100000
attribute [local go_sem] eqe_ii eqe_nn eqe_ni eqe_nni
def PR (base : Nat) (W : World) (v : Value) (xs : List S70) : Prop :=
  ∃ A cap, v = .slice A xs.length cap ∧ xs.length < 1000000000000 ∧ xs.length ≤ cap ∧ ((A = none ∧ xs = []) ∨ ∃ blk, A = some ⟨blk, 0, none⟩ ∧ base ≤ blk ∧ blk < W.heap.size ∧ HoldsK encP 8 W blk 0 xs.toArray)
theorem PR.of_R {W : World} {base : Nat} {ok : Nat → Prop} {v : Value} {xs : List S70} (h : Kd.R k70 70 W base ok v xs) (hl : xs.length < 1000000000000) : PR base W v xs := by
  rcases holds_of_R h with ⟨rfl, rfl⟩ | ⟨blk, cap, rfl, h1, h2, h3, _, h4⟩
  · exact ⟨none, 0, rfl, hl, Nat.le_refl _, Or.inl ⟨rfl, rfl⟩⟩
  · exact ⟨_, cap, rfl, hl, h3, Or.inr ⟨blk, rfl, h1, h2, h4⟩⟩
theorem PR.reads {W : World} {base : Nat} {v : Value} {xs : List S70} (h : PR base W v xs) : ∃ A cap, v = .slice A xs.length cap ∧ xs.length ≤ cap ∧ Kd.C k70 W A xs.length xs := by
  obtain ⟨A, cap, rfl, hl, hc, h⟩ := h
  refine ⟨A, cap, rfl, hc, ?_⟩
  rcases h with ⟨rfl, rfl⟩ | ⟨blk, rfl, _, _, h⟩
  · exact ⟨rfl, by simp, fun h => absurd h (by simp)⟩
  · have := c_of_holds h (by simp; omega)
    simpa using this
theorem PR.own {W : World} {base : Nat} {v : Value} {xs : List S70} (h : PR base W v xs) : ∀ k, v.ownBlock = some k → base ≤ k ∧ k < W.heap.size := by
  obtain ⟨A, cap, rfl, hl, hc, h⟩ := h
  intro k hk
  rcases h with ⟨rfl, rfl⟩ | ⟨blk, rfl, h1, h2, h⟩
  · simp [Value.ownBlock] at hk
  · have : blk = k := by simpa [Value.ownBlock] using hk
    subst this; exact ⟨h1, h2⟩
theorem PR.below {W W1 : World} {base : Nat} {v : Value} {xs : List S70} (h : PR base W v xs) (hb : Below W.heap.size W W1) : PR base W1 v xs := by
  obtain ⟨A, cap, rfl, hl, hc, h⟩ := h
  refine ⟨A, cap, rfl, hl, hc, ?_⟩
  rcases h with h | ⟨blk, rfl, h1, h2, h⟩
  · exact Or.inl h
  · exact Or.inr ⟨blk, rfl, h1, Nat.lt_of_lt_of_le h2 hb.size, holdsP_block h (hb.block blk h2)⟩
theorem PR.alloc {W : World} {base : Nat} {v : Value} {xs : List S70} (h : PR base W v xs) (o : Obj) : PR base (W.alloc o) v xs := h.below (Below.alloc (Below.refl _ _) (Nat.le_refl _) o)
set_option maxHeartbeats 8000000 in
theorem delete_nil (g : Nat) (lb : Array Value) (eg : ∀ args w, (callFunc g args).run Try.prog w = .ok (.enter g args) w) (A : Option Addr) (cap : Nat) (w : World) :
    Calls Try.prog 90 #[.slice A 0 cap, .func (.func g) #[] lb] w fun e w' => e = .returned (.slice A 0 cap) ∧ Below w.heap.size w w' := by
  have hI := indexFunc_pod g lb (fun _ => true) eg [] A cap w ⟨rfl, by simp, fun h => absurd h (by simp)⟩ (fun W x hx => absurd hx (by simp))
  have HI := Aside0.mk hI
  clear hI
  go_enter Try.func90, Try.ntmps90
  go_wp2_with (go_at_call 122; refine HI.out.mono ?_; rintro e w' ⟨rfl, hb⟩; have HB := Aside0.mk hb; clear hb; simp only [idxP])
  go_ret
  exact ⟨rfl, HB.out⟩
theorem delete_any (g : Nat) (lb : Array Value) (p : S70 → Bool) (eg : ∀ args w, (callFunc g args).run Try.prog w = .ok (.enter g args) w) (base : Nat) (w : World) (v : Value) (xs : List S70) (h : PR base w v xs) (hbase : base ≤ w.heap.size)
    (hp : ∀ W x, x ∈ xs → Below base w W → Calls Try.prog g (#[podV x] ++ lb) W fun e w' => e = .returned (.bool (p x)) ∧ Below W.heap.size W w') :
    Calls Try.prog 90 #[v, .func (.func g) #[] lb] w fun e w' => ∃ v', e = .returned v' ∧ PR base w' v' (xs.filter fun x => !p x) ∧ Below base w w' ∧ ∀ k, k < w.heap.size → some k ≠ v.ownBlock → w'.heap[k]? = w.heap[k]? := by
  obtain ⟨A, cap, rfl, hl, h3, h⟩ := h
  rcases h with ⟨rfl, rfl⟩ | ⟨blk, rfl, h1, h2, h4⟩
  · exact (delete_nil g lb eg none cap w).mono (by rintro e w' ⟨rfl, hb⟩; exact ⟨_, rfl, ⟨none, cap, rfl, by simp, by simp, Or.inl ⟨rfl, rfl⟩⟩, hb.mono hbase, fun k hk _ => hb.block k hk⟩)
  · have hd := deleteFunc_pod g lb p eg blk cap xs.toArray w h4 h2 (by simpa using hl) (by simpa using h3) (fun W x hx hb => hp W x (by simpa using hx) (hb.mono h1))
    refine Calls.mono (show Calls Try.prog 90 #[.slice (some ⟨blk, 0, none⟩) xs.length cap, .func (.func g) #[] lb] w _ from by simpa using hd) ?_
    rintro e w' ⟨rfl, hh, hb, ho⟩
    have hle : (xs.filter fun x => !p x).length ≤ xs.length := List.length_filter_le _ _
    exact ⟨_, rfl, ⟨_, cap, rfl, by omega, by omega, Or.inr ⟨blk, rfl, h1, Nat.lt_of_lt_of_le h2 hb.size, by simpa using hh⟩⟩, hb.mono h1, fun k hk hn => ho k hk (fun e => hn (by rw [e]; rfl))⟩
set_option maxHeartbeats 8000000 in
theorem ins_nil (A : Option Addr) (cap : Nat) (c : Value) (w : World) : Calls Try.prog 139 #[.slice A 0 cap, .int .i64 0, .int .i64 0, c] w fun e w' => e = .returned (.tuple #[]) ∧ w' = w := by
  go_enter Try.func139, Try.ntmps139
  go_wp2
  go_loop [8] (fun v8 => v8 = .int .i64 1) (fun _ => 0)
  case atStart => rfl
  case round =>
    obtain rfl := hrel
    go_wp2
    go_end0
    exact ⟨rfl, rfl⟩
set_option maxHeartbeats 8000000 in
theorem stable_nil (A : Option Addr) (cap : Nat) (c : Value) (w : World) : Calls Try.prog 123 #[.slice A 0 cap, .int .i64 0, c] w fun e w' => e = .returned (.tuple #[]) ∧ w' = w := by
  go_enter Try.func123, Try.ntmps123
  go_wp2
  go_loop [7, 8] (fun v7 v8 => v7 = .int .i64 0 ∧ v8 = .int .i64 20) (fun _ _ => 0)
  case atStart => exact ⟨rfl, rfl⟩
  case round =>
    obtain ⟨rfl, rfl⟩ := hrel
    go_wp2_with (go_at_call 139; refine (ins_nil _ _ _ _).mono ?_; rintro e w' ⟨rfl, rfl⟩)
    go_loop [6] (fun v6 => v6 = .int .i64 20) (fun _ => 0)
    case atStart => rfl
    case round =>
      obtain rfl := hrel
      go_wp2
      go_end0
      exact ⟨rfl, rfl⟩
set_option maxHeartbeats 8000000 in
theorem sort_nil (A : Option Addr) (cap : Nat) (c : Value) (w : World) : Calls Try.prog 93 #[.slice A 0 cap, c] w fun e w' => e = .returned (.tuple #[]) ∧ w' = w := by
  go_enter Try.func93, Try.ntmps93
  go_wp2_with (go_at_call 123; refine (stable_nil _ _ _ _).mono ?_; rintro e w' ⟨rfl, rfl⟩)
  go_end0
  exact ⟨rfl, rfl⟩
theorem below_grow {B : Nat} (W : World) (os : Array Obj) (hB : B ≤ W.heap.size) : Below B W (grow W os) := ⟨rfl, rfl, rfl, by simp, fun k hk => heap_grow_old W os (by omega)⟩
theorem below_putRow {B : Nat} (W : World) (blk n : Nat) (d : Array S70) (hB : B ≤ blk) : Below B W (putRowK encP 8 (Sort.ahead W n) blk 0 d) :=
  ⟨rfl, rfl, rfl, by rw [size_putRowK]; exact Nat.le_refl _, fun k hk => by
    show ((Sort.ahead W n).heap.modify blk _)[k]? = _
    rw [Array.getElem?_modify, if_neg (by omega)]; rfl⟩
theorem sort_any (base : Nat) (w : World) (v : Value) (xs : List S70) (h : PR base w v xs) :
    Calls Try.prog 93 #[v, .func (.func 94) #[] #[]] w fun e w' => e = .returned (.tuple #[]) ∧ PR base w' v (stableP xs.toArray).toList ∧ Below base w w' := by
  obtain ⟨A, cap, rfl, hl, h3, h⟩ := h
  have hs : (stableP xs.toArray).toList.length = xs.length := by have := (pm_stable xs.toArray).1; simpa using this
  rcases h with ⟨rfl, rfl⟩ | ⟨blk, rfl, h1, h2, h4⟩
  · exact (sort_nil none cap _ w).mono (by
      rintro e w' ⟨rfl, rfl⟩
      refine ⟨rfl, ⟨none, cap, by rw [hs], by rw [hs]; exact hl, by rw [hs]; exact h3, Or.inl ⟨rfl, List.eq_nil_of_length_eq_zero hs⟩⟩, Below.refl _ _⟩)
  · have hd := sortStable_pod w blk cap xs.toArray h4 h2 (by simpa using hl)
    refine Calls.mono (show Calls Try.prog 93 #[.slice (some ⟨blk, 0, none⟩) xs.length cap, .func (.func 94) #[] #[]] w _ from by simpa using hd) ?_
    rintro e w' ⟨rfl, n, os, rfl⟩
    have hH := holdsK_sortWorldK_c encP 8 w blk 0 xs.toArray (stableP xs.toArray) n os h4 h2 (pm_stable _).1
    refine ⟨rfl, ⟨_, cap, by rw [hs], by rw [hs]; exact hl, by rw [hs]; exact h3, Or.inr ⟨blk, rfl, h1, Nat.lt_of_lt_of_le h2 (size_sortWorldK_c encP 8 w blk 0 n _ os), by simpa using hH⟩⟩, ?_⟩
    unfold sortWorldK
    exact (below_putRow w blk n _ h1).trans (below_grow _ _ (by rw [size_putRowK]; show base ≤ w.heap.size; omega))
def vicP (node prio : Int) (q : S70) : Bool := q.f4 != node || decide (prio ≤ q.f2)
set_option maxHeartbeats 8000000 in
theorem vic_closure (W : World) (x : S70) (Bp Bn : Nat) (node prio : Int) (hn : W.cell? ⟨Bn, 0, none⟩ = some (.int .i64 node)) (hp : W.cell? ⟨Bp, 2, none⟩ = some (.int .i64 prio)) :
    Calls Try.prog 92 #[podV x, .pointer (some ⟨Bn, 0, none⟩), .pointer (some ⟨Bp, 0, none⟩)] W fun e w' => e = .returned (.bool (vicP node prio x)) ∧ Below W.heap.size W w' := by
  have hlt : Bn < W.heap.size := World.block_lt_of_cell? W _ hn
  have hlt2 : Bp < W.heap.size := World.block_lt_of_cell? W _ hp
  have hne : Bn ≠ W.heap.size := by omega
  have hne2 : Bp ≠ W.heap.size := by omega
  unfold podV
  by_cases h1 : x.f4 = node
  · have hb1 : (x.f4 != node) = false := by simp [h1]
    have hv : vicP node prio x = decide (prio ≤ x.f2) := by unfold vicP; rw [hb1]; rfl
    rw [hv]
    clear hv h1
    go_enter Try.func92, Try.ntmps92
    go_wp2
    repeat (go_quiet (fail); try go_wp2)
    all_goals
      go_ret
      refine ⟨?_, ?_⟩
      · simp_all
      repeat (first | (with_reducible first | apply below_alloc | apply pw_below_drewN | apply below_drew1 | exact Below.refl _ _))
  · have hb1 : (x.f4 != node) = true := by simp [h1]
    have hv : vicP node prio x = true := by unfold vicP; rw [hb1]; rfl
    rw [hv]
    clear hv h1
    go_enter Try.func92, Try.ntmps92
    go_wp2
    repeat (go_quiet (fail); try go_wp2)
    go_ret
    refine ⟨rfl, ?_⟩
    repeat (first | (with_reducible first | apply below_alloc | apply pw_below_drewN | apply below_drew1 | exact Below.refl _ _))
def vicF (l0_0 : List S70) (a0_1 a0_2 a1 a2 : Int) : Option (List Int) := (state_Pod.f l0_0 a0_1 a0_2 a1).bind fun t => if t.2.2.2.2.2.2.2.2 = true then (if a2 = 0 then some [] else if l0_0.length < 1000000000000 then some ((stableP (l0_0.filter fun q => !vicP a2 t.2.2.1 q).toArray).toList.map fun q => q.f0) else none) else some []
theorem vic_box {w w1 : World} {v a b c : Value} (hb : Below ((w.alloc (.cells #[v, a, b] 26)).alloc (.cells #[c] 3)).heap.size ((w.alloc (.cells #[v, a, b] 26)).alloc (.cells #[c] 3)) w1) :
    w1.cell? ⟨w.heap.size + 1, 0, none⟩ = some c ∧ w1.cell? ⟨w.heap.size, 0, none⟩ = some v ∧ w.heap.size + 2 ≤ w1.heap.size := by
  refine ⟨?_, ?_, Nat.le_trans (by simp) hb.size⟩
  · rw [hb.cell (p := ⟨w.heap.size + 1, 0, none⟩) (by simp)]; simp
  · rw [hb.cell (p := ⟨w.heap.size, 0, none⟩) (by simp; omega)]; simp
set_option maxHeartbeats 8000000 in
theorem vic_calls (A0_0 : Option Addr) (c0_0 : Nat) (l0_0 : List (S70)) (a0_1 : Int) (a0_2 : Int) (a1 : Int) (a2 : Int) (r : List Int) (w : World) (hr0_0 : Kd.C k70 w A0_0 l0_0.length l0_0) (hc0_0 : l0_0.length ≤ c0_0) (h : vicF l0_0 a0_1 a0_2 a1 a2 = some r) :
    Calls Try.prog 48 #[.agg #[.slice A0_0 l0_0.length c0_0, .int .i64 a0_1, .int .i64 a0_2], .int .i64 a1, .int .i64 a2] w fun e w' => ∃ v0_ : Value, e = .returned (v0_) ∧ Kd.R (Kd.int .i64) 3 w' w.heap.size (fun _ => True) v0_ r ∧ Below w.heap.size w w' := by
  unfold vicF at h
  obtain ⟨⟨t1, t2, t3, t4, t5, t6, t7, t8, t9⟩, h1, hh⟩ := Option.bind_eq_some_iff.1 h
  clear h
  have h : (if t9 = true then (if a2 = 0 then some [] else if l0_0.length < 1000000000000 then some ((stableP (l0_0.filter fun q => !vicP a2 t3 q).toArray).toList.map fun q => q.f0) else none) else some []) = some r := hh
  clear hh
  have HR := Aside0.mk hr0_0
  have HC := Aside0.mk hc0_0
  have H1 := Aside0.mk h1
  clear hr0_0 hc0_0 h1
  cases ht9 : t9 with
  | false =>
    rw [ht9, if_neg (by simp)] at h
    obtain rfl := Option.some.inj h
    subst ht9
    clear h
    go_enter Try.func48, Try.ntmps48
    go_wp2_with (go_at_call 89; refine (state_Pod.calls A0_0 c0_0 l0_0 a0_1 a0_2 a1 t1 t2 t3 t4 t5 t6 t7 t8 false _ (Kd.C_alloc (Kd.C_alloc HR.out _) _) HC.out H1.out).mono ?_; rintro e w1 ⟨rfl, hb⟩; have HB := Aside0.mk (below_step (below_alloc (below_alloc (Below.refl _ _) _) _) hb); clear hb)
    go_ret
    exact ⟨_, rfl, Kd.R_nil _ _ _ _ _, by repeat (first | exact HB.out | (with_reducible first | apply below_alloc | apply pw_below_drewN | apply below_drew1 | refine Below.setCell ?_ (by have := HB.out.size; simp; omega) _))⟩
  | true =>
    rw [ht9, if_pos rfl] at h
    subst ht9
    by_cases h2 : a2 = 0
    · rw [if_pos h2] at h
      obtain rfl := Option.some.inj h
      have h20 : (a2 == 0) = true := by simp [h2]
      clear h h2
      go_enter Try.func48, Try.ntmps48
      go_wp2_with fail
      refine (state_Pod.calls A0_0 c0_0 l0_0 a0_1 a0_2 a1 t1 t2 t3 t4 t5 t6 t7 t8 true _ (Kd.C_alloc (Kd.C_alloc HR.out _) _) HC.out H1.out).mono ?_
      rintro e w1 ⟨rfl, hb⟩
      have HB := Aside0.mk (below_step (below_alloc (below_alloc (Below.refl _ _) _) _) hb)
      obtain ⟨hc5, hc4, hz⟩ := vic_box hb
      have hc5' := Lib.cell?_alloc_some (.cells #[.int .i64 t1, .int .i64 t2, .int .i64 t3, .int .u64 t4, .int .u64 t5, .int .u64 t6, .int .u64 t7, .int .i64 t8] 70) hc5
      have hc4' := Lib.cell?_alloc_some (.cells #[.int .i64 t1, .int .i64 t2, .int .i64 t3, .int .u64 t4, .int .u64 t5, .int .u64 t6, .int .u64 t7, .int .i64 t8] 70) hc4
      clear hb
      go_wp2
      go_ret
      exact ⟨_, rfl, Kd.R_nil _ _ _ _ _, by repeat (first | exact HB.out | (with_reducible first | apply below_alloc | apply pw_below_drewN | apply below_drew1 | refine Below.setCell ?_ (by have := HB.out.size; simp; omega) _))⟩
    · rw [if_neg h2] at h
      by_cases h3 : l0_0.length < 1000000000000
      case neg => rw [if_neg h3] at h; cases h
      rw [if_pos h3] at h
      obtain rfl := Option.some.inj h
      have h20 : (a2 == 0) = false := by simp [h2]
      have H3 := Aside0.mk h3
      clear h h2 h3
      go_enter Try.func48, Try.ntmps48
      go_wp2_with fail
      refine (state_Pod.calls A0_0 c0_0 l0_0 a0_1 a0_2 a1 t1 t2 t3 t4 t5 t6 t7 t8 true _ (Kd.C_alloc (Kd.C_alloc HR.out _) _) HC.out H1.out).mono ?_
      rintro e w1 ⟨rfl, hb⟩
      have HB := Aside0.mk (below_step (below_alloc (below_alloc (Below.refl _ _) _) _) hb)
      obtain ⟨hc5, hc4, hz⟩ := vic_box hb
      have hc5' := Lib.cell?_alloc_some (.cells #[.int .i64 t1, .int .i64 t2, .int .i64 t3, .int .u64 t4, .int .u64 t5, .int .u64 t6, .int .u64 t7, .int .i64 t8] 70) hc5
      have hc4' := Lib.cell?_alloc_some (.cells #[.int .i64 t1, .int .i64 t2, .int .i64 t3, .int .u64 t4, .int .u64 t5, .int .u64 t6, .int .u64 t7, .int .i64 t8] 70) hc4
      clear hb
      have hp3 : (w1.alloc (.cells #[.int .i64 t1, .int .i64 t2, .int .i64 t3, .int .u64 t4, .int .u64 t5, .int .u64 t6, .int .u64 t7, .int .i64 t8] 70)).cell? ⟨w1.heap.size, 2, none⟩ = some (.int .i64 t3) := by simp
      have HB2 := Aside0.mk (below_alloc HB.out (.cells #[.int .i64 t1, .int .i64 t2, .int .i64 t3, .int .u64 t4, .int .u64 t5, .int .u64 t6, .int .u64 t7, .int .i64 t8] 70))
      go_wp2_with fail
      refine (api_Pod_91.calls A0_0 c0_0 l0_0 l0_0 _ (Kd.C_below HR.out HB2.out) HC.out (by unfold api_Pod_91.f; rw [if_pos (by have := H3.out; omega)])).mono ?_
      rintro e w3 ⟨v3, rfl, hr3, hb3⟩
      have HB3 := Aside0.mk (below_then HB2.out (below_size HB2.out) hb3)
      have HPR := Aside0.mk (PR.of_R hr3 H3.out)
      have HC5 := Aside0.mk ((hb3.cell (p := ⟨w.heap.size + 1, 0, none⟩) (by simp; omega)).trans hc5')
      have HC3 := Aside0.mk ((hb3.cell (p := ⟨w1.heap.size, 2, none⟩) (by simp)).trans hp3)
      have HZ3 := Aside0.mk hb3.size
      clear hr3 hb3 hc5 hc4 hc5' hc4' hp3
      generalize hW2 : w1.alloc (.cells #[.int .i64 t1, .int .i64 t2, .int .i64 t3, .int .u64 t4, .int .u64 t5, .int .u64 t6, .int .u64 t7, .int .i64 t8] 70) = W2 at *
      have hW2s : W2.heap.size = w1.heap.size + 1 := by rw [← hW2]; simp
      clear hW2
      have HW2s := Aside0.mk hW2s
      clear hW2s
      go_wp2_with fail
      refine (delete_any 92 #[.pointer (some ⟨w.heap.size + 1, 0, none⟩), .pointer (some ⟨w1.heap.size, 0, none⟩)] (vicP a2 t3) (enters_of Try.func92 (by kernel_rfl) rfl) W2.heap.size w3 v3 l0_0 HPR.out HZ3.out (fun W x _ hb => vic_closure W x w1.heap.size (w.heap.size + 1) a2 t3 ((hb.cell (p := ⟨w.heap.size + 1, 0, none⟩) (show w.heap.size + 1 < W2.heap.size by have := HW2s.out; omega)).trans HC5.out) ((hb.cell (p := ⟨w1.heap.size, 2, none⟩) (show w1.heap.size < W2.heap.size by have := HW2s.out; omega)).trans HC3.out))).mono ?_
      rintro e w4 ⟨v4, rfl, hr4, hb4, -⟩
      have HB4 := Aside0.mk (HB3.out.trans (hb4.mono (by have := HW2s.out; omega)))
      have HPR4 := Aside0.mk hr4
      clear hr4 hb4
      go_wp2_with fail
      refine (sort_any W2.heap.size w4 v4 _ HPR4.out).mono ?_
      rintro e w5 ⟨rfl, hr5, hb5⟩
      have HB5 := Aside0.mk (HB4.out.trans (hb5.mono (by have := HW2s.out; omega)))
      have hlen : (stableP (l0_0.filter fun q => !vicP a2 t3 q).toArray).toList.length < 1000000000000 := by obtain ⟨_, _, _, h, _⟩ := hr5; exact h
      obtain ⟨A5, c5, rfl, -, hc5⟩ := hr5.reads
      generalize hls : (stableP (l0_0.filter fun q => !vicP a2 t3 q).toArray).toList = ls at hlen hc5 ⊢
      have HLS := Aside0.mk hls
      clear hls
      have HK5 := Aside0.mk hc5
      have HL5 := Aside0.mk hlen
      clear hr5 hb5 hc5 hlen HPR4 HZ3 HC3 HC5 HPR
      go_wp2
      go_loopw [10, 12, 34] (fun v10 v12 v34 wr => ∃ i : Nat, v34 = .int .i64 i ∧ i ≤ ls.length ∧ Aside0 (Kd.R (Kd.int .i64) 3 wr w5.heap.size (fun _ => True) v10 ((ls.take i).map fun q => q.f0)) ∧ Aside0 (Below w5.heap.size w5 wr)) (fun _ _ v34 _ => ls.length - (intOf v34).toNat)
      case atStart => exact ⟨0, rfl, by omega, ⟨Kd.R_nil _ _ _ _ _⟩, ⟨Below.refl _ _⟩⟩
      case round =>
        obtain ⟨i, rfl, hi, HO, HBr⟩ := hrel
        have hmx : ls.length ≤ 9223372036854775807 := HK5.out.2.1
        by_cases hlt : i < ls.length
        · have hlb : decide ((i : Int) < (ls.length : Int)) = true := decide_eq_true (by omega)
          have hp0 : 0 ≤ (i : Int) := by omega
          have hq0 : (i : Int) < (ls.length : Int) := by omega
          obtain ⟨ad, e, h0, h1, h2, h3, h4, h5, h6, h7⟩ := at_T70 HK5.out (i : Int) hp0 hq0
          cases e
          obtain ⟨x, hx⟩ : ∃ x, rd_T70 ls (i : Int) = x := ⟨_, rfl⟩
          rw [hx] at h0 h1 h2 h3 h4 h5 h6 h7
          simp only [Int.toNat_natCast] at h0 h1 h2 h3 h4 h5 h6 h7
          replace h0 := (HBr.out.cell (World.block_lt_of_cell? w5 _ h0)).trans h0
          replace h1 := (HBr.out.cell (World.block_lt_of_cell? w5 _ h1)).trans h1
          replace h2 := (HBr.out.cell (World.block_lt_of_cell? w5 _ h2)).trans h2
          replace h3 := (HBr.out.cell (World.block_lt_of_cell? w5 _ h3)).trans h3
          replace h4 := (HBr.out.cell (World.block_lt_of_cell? w5 _ h4)).trans h4
          replace h5 := (HBr.out.cell (World.block_lt_of_cell? w5 _ h5)).trans h5
          replace h6 := (HBr.out.cell (World.block_lt_of_cell? w5 _ h6)).trans h6
          replace h7 := (HBr.out.cell (World.block_lt_of_cell? w5 _ h7)).trans h7
          have hd : (ls.take (i + 1)).map (fun q => q.f0) = (ls.take i).map (fun q => q.f0) ++ [x.f0] := by
            rw [List.take_succ_eq_append_getElem hlt, List.map_append, ← hx]
            simp [rd_T70, List.getD_eq_getElem?_getD, List.getElem?_eq_getElem hlt]
          have HD := Aside0.mk hd
          have HLI := Aside0.mk (show ((ls.take i).map fun q => q.f0).length = i by simp; omega)
          clear hd hx
          obtain ⟨os, hos⟩ : ∃ os, (ls.take i).map (fun q => q.f0) = os := ⟨_, rfl⟩
          rw [hos] at HO HLI HD
          have HOS := Aside0.mk hos
          clear hos
          go_wp2_with (first | ((with_reducible refine gate_builtin (b := .append) (xs := #[.tmp 38, .tmp 41]) rfl ?_); at_builtin; refine Kd.R_append (Kd.int .i64) (w0 := w5) w5.heap.size rfl (.tmp 38) (.tmp 41) 71 3 (.int .i64 0) 8 rfl Try.underlying71 info3 rfl (by decide) (by omega) u10 os x.f0 [.int .i64 x.f0] (fun _ => True) (fun _ => False) rfl (by first | (go_simp; done) | (go_simp; rfl)) ?aP (fun _ hk => hk.elim) ?aF ?aO ?aB ?aS ?aL ?_; (case aP => exact rfl); (case aB => exact (by repeat (first | (with_reducible first | exact HBr.out | apply below_alloc | apply pw_below_drewN | apply below_drew1) | exact HBr.out))); (case aF => exact (fun _ _ => trivial)); (case aO => exact (by (with_reducible repeat (first | apply Kd.R_alloc | apply Kd.R_drewN | apply Kd.R_drew)); exact HO.out)); (case aS => exact (below_size (by repeat (first | (with_reducible first | exact HBr.out | apply below_alloc | apply pw_below_drewN | apply below_drew1) | exact HBr.out)))); (case aL => rw [HLI.out]; have := HL5.out; omega); intro v1 w6 ho hb hg hat; have HO2 := Aside0.mk ho; have HB6 := Aside0.mk hb; clear ho hb hg hat))
          go_roundw
          case measure => simp [intOf]; omega
          case rel => exact ⟨i + 1, by go_num, by omega, ⟨by rw [HD.out]; exact HO2.out⟩, HB6⟩
        · have hlb : decide ((i : Int) < (ls.length : Int)) = false := decide_eq_false (by omega)
          have hge : ¬ i < ls.length := hlt
          go_wp2
          go_ret
          obtain rfl : i = ls.length := by omega
          refine ⟨_, rfl, Kd.R_lower (by have := HO.out; rw [List.take_of_length_le (Nat.le_refl _)] at this; rw [HLS.out]; exact this) (below_size HB5.out), below_then HB5.out (below_size HB5.out) HBr.out⟩
end Go.Proofs.Ytppfkbigeknedaa.Q
