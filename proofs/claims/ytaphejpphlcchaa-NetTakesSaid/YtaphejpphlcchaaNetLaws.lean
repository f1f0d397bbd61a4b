/- Of whatever net: NetActs and NetCounts answer true. -/
import Derived.Test.YtaphejpphlcchaaNetPure
import Derived.Test.YtaphejpphlcchaaPNetx7
import Derived.Test.YtaphejpphlcchaaPNetx8
namespace Go.Proofs.Ytaphejpphlcchaa.NetLaws
open Go.RowKit Go.Proofs.YtaphejpphlcchaaW.PrintWords Go.Proofs.Ytaphejpphlcchaa.PNet Go.Proofs.Ytaphejpphlcchaa.NetPure
set_option linter.unusedVariables false
theorem awake_f : lockgatelaw11_awake.f = some true := rfl
theorem acts_j (k : Nat) (hk : 700 ≤ k) (a0 : Int) (l : List S29) (ok : Okay l) (to1 : Int) (b : List Int) (hb : b.length ≤ 500) (i : Int) (hi : 0 ≤ i) : lockgatelaw11_NetActs.j0 (k + 1) to1 b i false a0 l = some true := by
  have hl := ok.len
  simp only [lockgatelaw11_NetActs.j0]
  obtain ⟨x1, x2, x3, m, b1, ht, hrt, hx3, hm, _⟩ := take_f k (by omega) a0 l ok i hi
  obtain ⟨n, m2, hc, hrc, hm2, hb2, _⟩ := copy_f k (by omega) a0 l ok i hi
  have hmm : ∀ x ∈ l ++ [(⟨a0, to1, b⟩ : S29)], x.f2.length ≤ 500 := fun x hx => by
    rcases List.mem_append.1 hx with h | h
    · exact ok.bytes x h
    · rw [List.mem_singleton.1 h]; exact hb
  have hf : ∀ x ∈ l.filter (fun x => !(x.f1 == to1)), x.f2.length ≤ 500 := fun x hx => ok.bytes x (List.mem_filter.1 hx).1
  have hfl : (l.filter (fun x => !(x.f1 == to1))).length ≤ 61 := by have := List.length_filter_le (fun x : S29 => !(x.f1 == to1)) l; omega
  rw [if_neg (by decide), ht, Option.bind_some, hrt, Option.bind_some]
  simp only []
  rw [samePacket_f k (by omega) x1 x2 x3 hx3, Option.bind_some, if_pos rfl, same_f k (by omega) a0 m (by have := hm.len; omega) hm.bytes, Option.bind_some, if_pos rfl, if_pos (by simp), send_f k (by omega) a0 l ok to1 b hb, Option.bind_some, refSend_f k (by omega) a0 l ok to1 b, Option.bind_some]
  simp only []
  rw [same_f k (by omega) _ _ (by simp; omega) hmm, Option.bind_some, if_pos rfl, drop_f k (by omega) a0 l i ht, Option.bind_some]
  simp only []
  rw [same_f k (by omega) a0 m (by have := hm.len; omega) hm.bytes, Option.bind_some, if_pos rfl, hc, Option.bind_some, hrc, Option.bind_some]
  simp only []
  rw [same_f k (by omega) n m2 hm2 hb2, Option.bind_some, if_pos rfl, cut_f k (by omega) a0 l ok to1, Option.bind_some, refCut_f k (by omega) a0 l hl to1, Option.bind_some]
  simp only []
  rw [same_f k (by omega) _ _ hfl hf, Option.bind_some]
theorem acts_aw (k : Nat) (a0 : Int) (l : List S29) (to1 : Int) (b : List Int) (i : Int) : lockgatelaw11_NetActs.j0 (k + 1) to1 b i true a0 l = some true := by
  simp only [lockgatelaw11_NetActs.j0]; rfl
theorem acts (a0 : Int) (l : List S29) (to1 : Int) (b : List Int) (i : Int) : ∃ k, lockgatelaw11_NetActs.f k a0 l to1 b i = some true := by
  obtain ⟨k, hk⟩ : ∃ k, k = 1000 := ⟨1000, rfl⟩
  refine ⟨k + 1, ?_⟩
  unfold lockgatelaw11_NetActs.f
  obtain ⟨r, hr, hr'⟩ := right_f (k + 1) (by omega) a0 l
  rw [awake_f, Option.bind_some, if_pos rfl, hr, Option.bind_some]
  cases r with
  | false => rw [if_neg (by decide)]; exact acts_aw k a0 l to1 b i
  | true =>
    rw [if_pos rfl]
    by_cases hb : (b.length : Int) > 500
    · rw [if_pos hb]; exact acts_aw k a0 l to1 b i
    · rw [if_neg hb]
      by_cases hi : i < 0
      · rw [decide_eq_true hi]; exact acts_aw k a0 l to1 b i
      · rw [decide_eq_false hi]; exact acts_j k (by omega) a0 l (hr' rfl).2 to1 b (by omega) i (by omega)
theorem counts_aw (k : Nat) (a0 : Int) (l : List S29) (i : Int) : lockgatelaw11_NetCounts.j0 (k + 1) i true a0 l = some true := by
  simp only [lockgatelaw11_NetCounts.j0]; rfl
theorem counts_j (k : Nat) (hk : 700 ≤ k) (a0 : Int) (l : List S29) (ok : Okay l) (i : Int) (hi : 0 ≤ i) : lockgatelaw11_NetCounts.j0 (k + 2) i false a0 l = some true := by
  have hl := ok.len
  obtain ⟨x1, x2, x3, m, b1, ht, _, _, hm, hmc⟩ := take_f k (by omega) a0 l ok i hi
  obtain ⟨n, m2, hc, _, hm2, _, hmm⟩ := copy_f k (by omega) a0 l ok i hi
  have j1 : ∀ y6 y7 : Int, (m.length : Int) = y6 → (m2.length : Int) = y7 → lockgatelaw11_NetCounts.j1 (k + 1) i (l.length : Int) y6 y7 a0 l = some true := fun y6 y7 h6 h7 => by
    simp only [lockgatelaw11_NetCounts.j1]
    rw [ht, Option.bind_some]
    simp only []
    rw [if_pos h6, drop_f k (by omega) a0 l i ht, Option.bind_some]
    simp only []
    rw [if_pos h6, hc, Option.bind_some]
    simp only []
    rw [if_pos h7, send_f k (by omega) a0 l ok 0 [] (by simp), Option.bind_some]
    simp only []
    rw [w1 l.length (by omega)]
    simp
  simp only [lockgatelaw11_NetCounts.j0]
  rw [if_neg (by decide)]
  by_cases h0 : (l.length : Int) > 0
  · rw [if_pos h0]
    have hne : l ≠ [] := fun h => by rw [h] at h0; simp at h0
    refine j1 _ _ ?_ ?_
    · rcases hmc with ⟨h, _⟩ | ⟨h, _⟩
      · exact absurd h hne
      · unfold wrap64; omega
    · rcases hmm with ⟨h, _⟩ | ⟨_, h⟩
      · exact absurd h hne
      · unfold wrap64; omega
  · rw [if_neg h0]
    obtain rfl : l = [] := List.eq_nil_of_length_eq_zero (by omega)
    refine j1 _ _ ?_ ?_
    · rcases hmc with ⟨_, h, _⟩ | ⟨h, _⟩
      · rw [h]
      · simp at h
    · rcases hmm with ⟨_, h⟩ | ⟨h, _⟩
      · rw [h]
      · exact absurd rfl h
theorem counts (a0 : Int) (l : List S29) (i : Int) : ∃ k, lockgatelaw11_NetCounts.f k a0 l i = some true := by
  obtain ⟨k, hk⟩ : ∃ k, k = 1000 := ⟨1000, rfl⟩
  refine ⟨k + 2, ?_⟩
  unfold lockgatelaw11_NetCounts.f
  obtain ⟨r, hr, hr'⟩ := right_f (k + 2) (by omega) a0 l
  rw [awake_f, Option.bind_some, if_pos rfl, hr, Option.bind_some]
  cases r with
  | false => rw [if_neg (by decide)]; exact counts_aw (k + 1) a0 l i
  | true =>
    rw [if_pos rfl]
    by_cases hi : i < 0
    · rw [decide_eq_true hi]; exact counts_aw (k + 1) a0 l i
    · rw [decide_eq_false hi]; exact counts_j k (by omega) a0 l (hr' rfl).2 i (by omega)
end Go.Proofs.Ytaphejpphlcchaa.NetLaws
