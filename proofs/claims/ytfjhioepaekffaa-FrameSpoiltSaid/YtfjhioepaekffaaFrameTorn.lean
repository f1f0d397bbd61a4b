/- FrameTorn: plain: of frames that are cut off anywhere, those that stand wholly are read. Conditions: none beyond the law's. -/
import Derived.Test.YtfjhioepaekffaaFrameKeeps
namespace Go.Proofs.Ytfjhioepaekffaa.FramePure
open Go.RowKit Go.Proofs.Ytfjhioepaekffaa.PFrame Go.Proofs.YtfjhioepaekffaaW.PrintWords Go.Proofs.YtfjhioepaekffaaW.PrintLast Go.HashMath Go.FrameMath
set_option linter.unusedVariables false
/-- the bytes of the first i frames -/
def upTo (m : List (List Int)) (i : Nat) : List Int := ((m.take i).map frame).flatten
theorem upTo_succ (m : List (List Int)) (i : Nat) (h : i < m.length) : upTo m (i + 1) = upTo m i ++ frame m[i] := flat_len_take m i h
theorem upTo_all (m : List (List Int)) (i : Nat) : (m.map frame).flatten = upTo m i ++ ((m.drop i).map frame).flatten := by
  unfold upTo
  rw [← List.flatten_append, ← List.map_append, List.take_append_drop]
/-- how many frames stand wholly ahead of a place -/
def whole (m : List (List Int)) (at_ : Nat) : Nat → Nat → Nat
  | 0, i => i
  | d + 1, i => if (upTo m (i + 1)).length ≤ at_ ∧ i < m.length then whole m at_ d (i + 1) else i
theorem scan_torn (m : List (List Int)) (hs : ∀ x ∈ m, x.length ≤ 16777216) (at_ : Nat) (hat : at_ ≤ (m.map frame).flatten.length) : ∀ (d f i : Nat), d = m.length - i → i ≤ m.length → d < f → (upTo m i).length ≤ at_ →
    scan f ((m.map frame).flatten.take at_) (m.take i) (upTo m i).length = (m.take (whole m at_ d i), (upTo m (whole m at_ d i)).length) := by
  intro d
  induction d with
  | zero =>
    intro f i hd hi hf hu
    obtain ⟨f, rfl⟩ : ∃ q, f = q + 1 := ⟨f - 1, by omega⟩
    have e : (((m.map frame).flatten.take at_).drop (upTo m i).length) = [] := by
      rw [List.drop_eq_nil_of_le]
      have : upTo m i = (m.map frame).flatten := by unfold upTo; rw [List.take_of_length_le (by omega)]
      rw [this, List.length_take]; omega
    unfold scan whole
    rw [e]
    rfl
  | succ d ih =>
    intro f i hd hi hf hu
    obtain ⟨f, rfl⟩ : ∃ q, f = q + 1 := ⟨f - 1, by omega⟩
    have h1 : i < m.length := by omega
    have hall : (m.map frame).flatten = upTo m i ++ (frame m[i] ++ ((m.drop (i + 1)).map frame).flatten) := by
      rw [upTo_all m i, List.drop_eq_getElem_cons h1, List.map_cons, List.flatten_cons]
    have hdr : ((m.map frame).flatten.take at_).drop (upTo m i).length = (frame m[i] ++ ((m.drop (i + 1)).map frame).flatten).take (at_ - (upTo m i).length) := by
      rw [List.drop_take, hall, List.drop_left]
    have hl := hs _ (List.getElem_mem h1)
    have hsu : (upTo m (i + 1)).length = (upTo m i).length + (12 + m[i].length) := by rw [upTo_succ m i h1, List.length_append, frame_length]
    unfold scan whole
    by_cases hc : (upTo m (i + 1)).length ≤ at_
    · rw [if_pos ⟨hc, h1⟩]
      have hh : headOf (((m.map frame).flatten.take at_).drop (upTo m i).length) = some m[i] := by
        rw [hdr, List.take_append, List.take_of_length_le (by rw [frame_length]; omega)]
        exact headOf_frame _ hl _
      rw [hh]
      have := ih f (i + 1) (by omega) (by omega) (by omega) hc
      rw [List.take_succ_eq_append_getElem h1, hsu] at this
      exact this
    · rw [if_neg (fun h => hc h.1)]
      have hh : headOf (((m.map frame).flatten.take at_).drop (upTo m i).length) = none := by
        rw [hdr]
        exact headOf_torn _ hl _ _ (by omega)
      rw [hh]
theorem upTo_le (m : List (List Int)) (i : Nat) : (upTo m i).length ≤ (m.map frame).flatten.length := flat_le m i
theorem whole_le (m : List (List Int)) (at_ : Nat) : ∀ d i, i ≤ m.length → whole m at_ d i ≤ m.length
  | 0, i, h => h
  | d + 1, i, h => by
    unfold whole
    split
    · exact whole_le m at_ d (i + 1) (by omega)
    · exact h
theorem torn_l1 (m : List (List Int)) (hf : (m.map frame).flatten.length < 1000000) (at_ : Nat) (n : Nat) (c : Nat) (hc : c ≤ m.length) (hn : n = (upTo m c).length) (k0 : Nat) (hk0 : m.length + (m.map frame).flatten.length + 10 < k0) :
    ∀ (d k i : Nat), d = m.length - i → i ≤ m.length → d + k0 < k → whole m at_ d i = c →
      lockgatelaw04_FrameTorn.l1 k m (at_ : Int) (m.take c) (n : Int) ((upTo m i).length : Nat) (i : Int) (i : Int) = some true := by
  have hml := len_le m
  have fin : ∀ k i, i = c → m.length + (m.map frame).flatten.length + 10 < k → lockgateref04_SameAll.f k (m.take c) (m.take ((i : Int)).toNat) = some true := by
    rintro k i rfl hk
    rw [Int.toNat_natCast]
    exact sameAll_f (m.take i) (m.map frame).flatten.length (by omega) (by rw [List.length_take]; omega) (fun x hx => mem_len m x (List.mem_of_mem_take hx)) k (by rw [List.length_take]; omega)
  intro d
  induction d with
  | zero =>
    intro k i hd hi hk hw
    obtain ⟨k, rfl⟩ : ∃ q, k = q + 1 := ⟨k - 1, by omega⟩
    have hic : i = c := hw
    rw [lockgatelaw04_FrameTorn.l1, if_neg (by omega), if_pos (by rw [hn, hic]), if_pos (by omega), if_pos (by omega), fin k i hic (by omega)]
    rfl
  | succ d ih =>
    intro k i hd hi hk hw
    obtain ⟨k, rfl⟩ : ∃ q, k = q + 1 := ⟨k - 1, by omega⟩
    have h1 : i < m.length := by omega
    have hul := upTo_le m (i + 1)
    have hsu : (upTo m (i + 1)).length = (upTo m i).length + 12 + m[i].length := by rw [upTo_succ m i h1, List.length_append, frame_length]; omega
    rw [lockgatelaw04_FrameTorn.l1, if_pos (by omega), if_pos (by omega), rdL m i h1, w12_ _ (by omega), wadd_ _ _ (by omega) (by omega), ← hsu, w1 i (by omega)]
    unfold whole at hw
    by_cases hc2 : (upTo m (i + 1)).length ≤ at_
    · rw [if_pos ⟨hc2, h1⟩] at hw
      rw [if_pos (by omega)]
      exact ih k (i + 1) (by omega) (by omega) (by omega) hw
    · rw [if_neg (fun h => hc2 h.1)] at hw
      rw [if_neg (by omega), if_pos (by rw [hn, hw]), if_pos (by omega), if_pos (by omega), fin k i hw (by omega)]
      rfl
theorem torn_l0 (m : List (List Int)) (hb : ∀ x ∈ m, Byt x) (hf : (m.map frame).flatten.length < 100000) (a : Nat) (ha : a < 65536) (K : Nat) (hK : K = 500000) : ∀ (d k i : Nat), d = m.length - i → i ≤ m.length → d + K < k →
    lockgatelaw04_FrameTorn.l0 k m (a : Int) (upTo m i) (i : Int) = some true := by
  have hml := len_le m
  intro d
  induction d with
  | zero =>
    intro k i hd hi hk
    obtain ⟨k, rfl⟩ : ∃ q, k = q + 1 := ⟨k - 1, by omega⟩
    have e : upTo m i = (m.map frame).flatten := by unfold upTo; rw [List.take_of_length_le (by omega)]
    have hby := flat_byt m hb
    have hmod : Int.tmod (wrap64 (a : Int)) ((((m.map frame).flatten.length + 1 : Nat) : Int)) = ((a % ((m.map frame).flatten.length + 1) : Nat) : Int) := by rw [wn_ a (by omega)]; rfl
    have hlt : a % ((m.map frame).flatten.length + 1) < (m.map frame).flatten.length + 1 := Nat.mod_lt _ (by omega)
    have ht := scan_torn m (fun x hx => by have := mem_len m x hx; omega) (a % ((m.map frame).flatten.length + 1)) (by omega) m.length (((m.map frame).flatten.take (a % ((m.map frame).flatten.length + 1))).length + 1 + m.length) 0 (by omega) (by omega) (by omega) (by simp [upTo])
    have hT : ((m.map frame).flatten.take (a % ((m.map frame).flatten.length + 1))).length ≤ (m.map frame).flatten.length := by rw [List.length_take]; omega
    have hsc := scan_l ((m.map frame).flatten.take (a % ((m.map frame).flatten.length + 1))) (hby.take _) (by omega) (((m.map frame).flatten.take (a % ((m.map frame).flatten.length + 1))).length + 1 + m.length) 0 [] k (by omega) (by omega) (by simp) (by omega)
    have ht' : scan (((m.map frame).flatten.take (a % ((m.map frame).flatten.length + 1))).length + 1 + m.length) ((m.map frame).flatten.take (a % ((m.map frame).flatten.length + 1))) [] 0 = (m.take (whole m (a % ((m.map frame).flatten.length + 1)) m.length 0), (upTo m (whole m (a % ((m.map frame).flatten.length + 1)) m.length 0)).length) := ht
    rw [ht'] at hsc
    clear ht ht'
    have hend := torn_l1 m (by omega) (a % ((m.map frame).flatten.length + 1)) _ (whole m (a % ((m.map frame).flatten.length + 1)) m.length 0) (whole_le m _ _ _ (by omega)) rfl (m.length + (m.map frame).flatten.length + 11) (by omega) m.length k 0 (by omega) (by omega) (by omega) rfl
    rw [lockgatelaw04_FrameTorn.l0, if_neg (by omega), e, w1 _ (by omega), if_neg (by omega), hmod, if_pos (by omega), if_pos (by omega), Int.toNat_natCast]
    unfold frame_Scan.f
    rw [show (0 : Int) = ((0 : Nat) : Int) from rfl, hsc, Option.bind_some]
    exact hend
  | succ d ih =>
    intro k i hd hi hk
    obtain ⟨k, rfl⟩ : ∃ q, k = q + 1 := ⟨k - 1, by omega⟩
    have h1 : i < m.length := by omega
    have h2 := mem_len m m[i] (List.getElem_mem h1)
    have h3 := upTo_le m i
    rw [lockgatelaw04_FrameTorn.l0, if_pos (by omega), if_pos (by omega), rdL m i h1, put_f _ _ (by omega) (by omega) k (by omega), Option.bind_some, w1 i (by omega), ← upTo_succ m i h1]
    exact ih k (i + 1) (by omega) (by omega) (by omega)
theorem FrameTorn (m : List (List Int)) (hb : ∀ x ∈ m, Byt x) (n : Int) (h0 : 0 ≤ n) (h1 : n < 65536) : ∃ k, lockgatelaw04_FrameTorn.f k m n = some true := by
  obtain ⟨K, hK⟩ : ∃ K, K = 500000 := ⟨_, rfl⟩
  obtain ⟨k, hk⟩ : ∃ k, k = K + 100 := ⟨_, rfl⟩
  refine ⟨k + 1, ?_⟩
  unfold lockgatelaw04_FrameTorn.f
  rw [awake_f', Option.bind_some, if_pos rfl]
  obtain ⟨b, hb1, hb2⟩ := few_f m (k + 1) (by omega)
  rw [hb1, Option.bind_some]
  cases b
  · rw [lockgatelaw04_FrameTorn.j0, if_pos (show (!false) = true from rfl), awake_f', Option.bind_some]
  · obtain ⟨h3, h4⟩ := hb2 rfl
    have hfl := flat_length m
    obtain ⟨a, rfl⟩ : ∃ a : Nat, n = a := ⟨n.toNat, by omega⟩
    rw [lockgatelaw04_FrameTorn.j0, if_neg (by decide)]
    exact torn_l0 m hb (by omega) a (by omega) K hK m.length k 0 (by omega) (by omega) (by omega)
end Go.Proofs.Ytfjhioepaekffaa.FramePure
