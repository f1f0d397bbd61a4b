/- Of whatever net, bytes and place: NetKeeps answers true. -/
import Derived.Test.YtaphejpphlcchaaNetPure
import Derived.Test.YtaphejpphlcchaaKeepsWalk
namespace Go.Proofs.Ytaphejpphlcchaa.NetKeeps
open Go.RowKit Go.Proofs.YtaphejpphlcchaaW.PrintWords Go.Proofs.Ytaphejpphlcchaa.PNet Go.Proofs.Ytaphejpphlcchaa.NetPure
set_option linter.unusedVariables false
theorem copied_l' (a0 : Int) (l : List S29) (hl : l.length ≤ 100) (hb : ∀ x ∈ l, x.f2.length ≤ 500) : ∀ (d k i : Nat), d = l.length - i → i ≤ l.length → d < k → net_copied.l0 k l (l.length : Int) (i : Int) a0 (l.take i) = some (a0, l) := by
  intro d
  induction d with
  | zero =>
    intro k i hd hi hk
    obtain ⟨k, rfl⟩ : ∃ m, k = m + 1 := ⟨k - 1, by omega⟩
    simp only [net_copied.l0]
    rw [if_neg (by omega), List.take_of_length_le (by omega)]
  | succ d ih =>
    intro k i hd hi hk
    obtain ⟨k, rfl⟩ : ∃ m, k = m + 1 := ⟨k - 1, by omega⟩
    have hlt : i < l.length := by omega
    simp only [net_copied.l0]
    rw [if_pos (by omega), if_pos (by omega), if_pos (by omega), rd29 l i hlt, clone_f _ (hb _ (List.getElem_mem hlt)), Option.bind_some, if_pos (by rw [List.length_take]; omega), w1 i (by omega)]
    have := ih k (i + 1) (by omega) (by omega) (by omega)
    rw [List.take_succ_eq_append_getElem hlt] at this
    exact this
theorem copy_any (k : Nat) (hk : 200 ≤ k) (a0 : Int) (l : List S29) (hl : l.length ≤ 100) (hb : ∀ x ∈ l, x.f2.length ≤ 500) (i : Int) (hi : 0 ≤ i) : ∃ n m, net_Copy.f k a0 l i = some (n, m) := by
  have hc : net_copied.f k a0 l = some (a0, l) := by
    have := copied_l' a0 l hl hb l.length k 0 rfl (Nat.zero_le _) (by omega)
    rw [List.take_zero] at this
    exact this
  unfold net_Copy.f
  by_cases h0 : (l.length : Int) = 0
  · rw [if_pos h0, hc]
    exact ⟨_, _, rfl⟩
  · obtain ⟨j, hj, hji⟩ := place l i hi h0
    simp only [hji]
    rw [if_neg h0, if_pos (by omega), if_pos (by omega), rd29 l j hj]
    unfold net_Send.f
    rw [hc, Option.bind_some, clone_f _ (hb _ (List.getElem_mem hj)), Option.bind_some]
    rw [if_pos (by show l.length < 3518437208883; omega)]
    exact ⟨_, _, rfl⟩
theorem keeps_l (a0 : Int) (l : List S29) (ok : Okay l) (b : List Int) (hb : b.length ≤ 500) (p : Int) (hp : 0 ≤ p) : ∀ (d k i : Nat), d = l.length - i → i ≤ l.length → d + 1000 < k → lockgatelaw11_NetKeeps.l0 k b p (i : Int) a0 l a0 (l.take i) = some true := by
  have hl := ok.len
  intro d
  induction d with
  | zero =>
    intro k i hd hi hk
    obtain ⟨k, rfl⟩ : ∃ m, k = m + 1 := ⟨k - 1, by omega⟩
    simp only [lockgatelaw11_NetKeeps.l0]
    obtain ⟨n, m, hc⟩ := copy_any k (by omega) (wrap64 (a0 + 1)) (l ++ [⟨a0, 3, b⟩]) (by simp; omega) (fun x hx => by
      rcases List.mem_append.1 hx with h | h
      · exact ok.bytes x h
      · rw [List.mem_singleton.1 h]; exact hb) p hp
    obtain ⟨x1, x2, x3, m3, b1, ht, _⟩ := take_f k (by omega) a0 l ok p hp
    rw [if_neg (by omega), Option.bind_some, if_pos (by simp; omega), Option.bind_some, List.nil_append, send_f k (by omega) a0 l ok 3 b hb, Option.bind_some]
    simp only []
    rw [hc, Option.bind_some, ht, Option.bind_some, List.take_of_length_le (by omega), same_f k (by omega) a0 l (by omega) ok.bytes, Option.bind_some, if_pos rfl, same3_f k (by omega) b hb, Option.bind_some]
  | succ d ih =>
    intro k i hd hi hk
    obtain ⟨k, rfl⟩ : ∃ m, k = m + 1 := ⟨k - 1, by omega⟩
    have hlt : i < l.length := by omega
    have hx := ok.bytes _ (List.getElem_mem hlt)
    simp only [lockgatelaw11_NetKeeps.l0]
    rw [if_pos (by omega), if_pos (by omega), rd29 l i hlt, Option.bind_some, List.nil_append, if_pos (by simp; omega), if_pos (by rw [List.length_take]; omega), w1 i (by omega)]
    have := ih k (i + 1) (by omega) (by omega) (by omega)
    rw [List.take_succ_eq_append_getElem hlt] at this
    exact this
theorem keeps_aw (k : Nat) (a0 : Int) (l : List S29) (b : List Int) (p : Int) : lockgatelaw11_NetKeeps.j0 (k + 1) b p true a0 l = some true := by
  simp only [lockgatelaw11_NetKeeps.j0]; rfl
theorem keeps (a0 : Int) (l : List S29) (b : List Int) (p : Int) : ∃ k, lockgatelaw11_NetKeeps.f k a0 l b p = some true := by
  obtain ⟨k, hk⟩ : ∃ k, k = 2000 := ⟨2000, rfl⟩
  refine ⟨k + 1, ?_⟩
  unfold lockgatelaw11_NetKeeps.f
  obtain ⟨r, hr, hr'⟩ := right_f (k + 1) (by omega) a0 l
  rw [show lockgatelaw11_awake.f = some true from rfl, Option.bind_some, if_pos rfl, hr, Option.bind_some]
  cases r with
  | false => rw [if_neg (by decide)]; exact keeps_aw k a0 l b p
  | true =>
    rw [if_pos rfl]
    by_cases hb : (b.length : Int) > 500
    · rw [if_pos hb]; exact keeps_aw k a0 l b p
    · rw [if_neg hb]
      by_cases hp : p < 0
      · rw [decide_eq_true hp]; exact keeps_aw k a0 l b p
      · rw [decide_eq_false hp]
        simp only [lockgatelaw11_NetKeeps.j0]
        rw [if_neg (by decide)]
        have ok := (hr' rfl).2
        have hl := ok.len
        have := keeps_l a0 l ok b (by omega) p (by omega) l.length k 0 rfl (Nat.zero_le _) (by omega)
        rw [List.take_zero] at this
        exact this
theorem netKeeps_calls (a0 : Int) (A : Option Addr) (c : Nat) (l : List S29) (A1 : Option Addr) (c1 : Nat) (b : List Int) (p : Int) (w : World) (hr : Kd.C k29 w A l.length l) (hc : l.length ≤ c) (hr1 : Kd.C (Kd.int .u8) w A1 b.length b) (hc1 : b.length ≤ c1) :
    Calls Try.prog 3 #[.agg #[.int .i64 a0, .slice A l.length c], .slice A1 b.length c1, .int .i64 p] w fun e w' => e = .returned (.bool true) ∧ Below w.heap.size w w' := by
  obtain ⟨k, hk⟩ := keeps a0 l b p
  exact lockgatelaw11_NetKeeps.calls k a0 A c l A1 c1 b p true w hr hc hr1 hc1 hk ⟨rfl⟩
end Go.Proofs.Ytaphejpphlcchaa.NetKeeps
