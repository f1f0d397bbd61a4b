/- FrameSpoilt: plain: of frames of which one byte of the last record was turned, all but the last are read. Conditions: none beyond the law's. -/
import Derived.Test.YtfjhioepaekffaaFrameTorn
namespace Go.Proofs.Ytfjhioepaekffaa.FramePure
open Go.RowKit Go.Proofs.Ytfjhioepaekffaa.PFrame Go.Proofs.YtfjhioepaekffaaW.PrintWords Go.Proofs.YtfjhioepaekffaaW.PrintLast Go.HashMath Go.FrameMath
set_option linter.unusedVariables false
theorem scan_then (m : List (List Int)) (hs : ∀ x ∈ m, x.length ≤ 16777216) (n : Nat) (hn : n ≤ m.length) (T : List Int) (hT : headOf T = none) : ∀ (d f i : Nat), d = n - i → i ≤ n → d < f →
    scan f (upTo m n ++ T) (m.take i) (upTo m i).length = (m.take n, (upTo m n).length) := by
  intro d
  induction d with
  | zero =>
    intro f i hd hi hf
    obtain ⟨f, rfl⟩ : ∃ q, f = q + 1 := ⟨f - 1, by omega⟩
    obtain rfl : i = n := by omega
    unfold scan
    rw [List.drop_left, hT]
  | succ d ih =>
    intro f i hd hi hf
    obtain ⟨f, rfl⟩ : ∃ q, f = q + 1 := ⟨f - 1, by omega⟩
    have h1 : i < m.length := by omega
    have hall : upTo m n = upTo m i ++ (frame m[i] ++ (((m.take n).drop (i + 1)).map frame).flatten) := by
      have e := upTo_all (m.take n) i
      have h2 : i < (m.take n).length := by rw [List.length_take]; omega
      rw [List.drop_eq_getElem_cons h2, List.map_cons, List.flatten_cons] at e
      have e2 : upTo (m.take n) i = upTo m i := by unfold upTo; rw [List.take_take, Nat.min_eq_left (by omega)]
      rw [e2, List.getElem_take] at e
      exact e
    have hdr : (upTo m n ++ T).drop (upTo m i).length = frame m[i] ++ ((((m.take n).drop (i + 1)).map frame).flatten ++ T) := by
      rw [hall, List.append_assoc, List.drop_left, List.append_assoc]
    have hl := hs _ (List.getElem_mem h1)
    have hsu : (upTo m (i + 1)).length = (upTo m i).length + (12 + m[i].length) := by rw [upTo_succ m i h1, List.length_append, frame_length]
    have hh : headOf ((upTo m n ++ T).drop (upTo m i).length) = some m[i] := by rw [hdr]; exact headOf_frame _ hl _
    unfold scan
    rw [hh]
    have := ih f (i + 1) (by omega) (by omega) (by omega)
    rw [List.take_succ_eq_append_getElem h1, hsu] at this
    exact this
theorem xor_u8 (x b : Nat) (hx : x < 256) (hb : b < 256) (h0 : b ≠ 0) : ∃ y : Nat, Go.bits .xor .u8 (x : Int) (b : Int) = (y : Int) ∧ y < 256 ∧ y ≠ x := by
  have hl : x ^^^ b < 256 := Nat.xor_lt_two_pow (n := 8) hx hb
  refine ⟨x ^^^ b, ?_, hl, fun e => h0 ?_⟩
  · have e : (2 : Nat) ^ IntKind.u8.bits = 256 := by decide
    simp only [Go.bits, BitVec.ofInt_natCast, BitVec.toNat_xor, BitVec.toNat_ofNat, e, Nat.mod_eq_of_lt hx, Nat.mod_eq_of_lt hb]
    generalize x ^^^ b = q at *
    simp [IntKind.wrap, IntKind.bits, IntKind.signed]
    omega
  · have q := congrArg (x ^^^ ·) e
    simpa [← Nat.xor_assoc] using q
theorem spoilt_j0 (m : List (List Int)) (hb : ∀ x ∈ m, Byt x) (h3 : tot m ≤ 3000) (h4 : m.length ≤ 40) (hm : 0 < m.length) (a c : Nat) (ha : a < 65536) (hc : c < 256) (hc0 : c ≠ 0) (k : Nat) (hk : 100000 < k) :
    lockgatelaw04_FrameSpoilt.j0 (k + 1) m (a : Int) (c : Int) false = some true := by
  have hfl := flat_length m
  obtain ⟨n, hn⟩ : ∃ n, m.length = n + 1 := ⟨m.length - 1, by omega⟩
  have h1 : n < m.length := by omega
  have hbl := hb _ (List.getElem_mem h1)
  have hml := mem_len m m[n] (List.getElem_mem h1)
  have hall : (m.map frame).flatten = upTo m n ++ frame m[n] := by
    rw [← upTo_succ m n h1]; unfold upTo; rw [List.take_of_length_le (by omega)]
  have hlen : ((m.map frame).flatten).length = (upTo m n).length + (12 + m[n].length) := by rw [hall, List.length_append, frame_length]
  have e1 : wrap64 ((m.length : Int) - 1) = (n : Int) := by rw [hn]; unfold wrap64; omega
  rw [lockgatelaw04_FrameSpoilt.j0, if_neg (by decide), e1, if_pos (by omega), if_pos (by omega), rdL m n h1]
  clear e1
  by_cases hz : (m[n].length : Int) = 0
  · rw [if_pos hz]
  · rw [if_neg hz, row_f m (by omega) k (by omega), Option.bind_some]
    have hrl : a % m[n].length < m[n].length := Nat.mod_lt _ (by omega)
    obtain ⟨i, hi⟩ : ∃ i, i = m[n].length - 1 - a % m[n].length := ⟨_, rfl⟩
    have ep : wrap64 ((wrap64 (((((m.map frame).flatten).length : Nat) : Int) - 1)) - (Int.tmod (wrap64 (a : Int)) (m[n].length : Int))) = (((upTo m n).length + (12 + i) : Nat) : Int) := by
      rw [wn_ a (by omega), show Int.tmod (a : Int) (m[n].length : Int) = ((a % m[n].length : Nat) : Int) from rfl]
      generalize a % m[n].length = r at *
      unfold wrap64
      omega
    rw [ep, if_pos (by omega), if_pos (by omega), Int.toNat_natCast]
    clear ep
    have hil : i < m[n].length := by omega
    have hrd : rd (m.map frame).flatten (((upTo m n).length + (12 + i) : Nat) : Int) = m[n][i] := by
      rw [rd_nat _ _ (by omega)]
      have : (m.map frame).flatten[(upTo m n).length + (12 + i)]'(by omega) = (upTo m n ++ frame m[n])[(upTo m n).length + (12 + i)]'(by rw [← hall]; omega) := by simp only [hall]
      rw [this, List.getElem_append_right (by omega)]
      unfold frame
      rw [List.getElem_append_right (by simp [lowB_length])]
      congr 1
      simp [lowB_length]
    have hx := hbl _ (List.getElem_mem hil)
    obtain ⟨x, hxx⟩ : ∃ x : Nat, m[n][i] = (x : Int) := ⟨m[n][i].toNat, by omega⟩
    obtain ⟨y, hy1, hy2, hy3⟩ := xor_u8 x c (by omega) hc hc0
    rw [hrd, hxx, hy1, hall, List.set_append_right _ _ (by omega), Nat.add_sub_cancel_left]
    have hT := headOf_spoilt m[n] hbl (by omega) i hil (y : Int) (by omega) (by rw [hxx]; omega)
    have hby : Byt (upTo m n ++ (frame m[n]).set (12 + i) (y : Int)) := by
      refine Byt.append (flat_byt _ fun z hz => hb z (List.mem_of_mem_take hz)) fun z hz => ?_
      rcases List.mem_or_eq_of_mem_set hz with h | rfl
      · exact frame_byt hbl z h
      · omega
    have hL : (upTo m n ++ (frame m[n]).set (12 + i) (y : Int)).length = (m.map frame).flatten.length := by rw [List.length_append, List.length_set, frame_length, hlen]
    have hsc := scan_l _ hby (by omega) ((upTo m n ++ (frame m[n]).set (12 + i) (y : Int)).length + 1 + m.length) 0 [] k (by omega) (by omega) (by simp) (by omega)
    have hst : scan ((upTo m n ++ (frame m[n]).set (12 + i) (y : Int)).length + 1 + m.length) (upTo m n ++ (frame m[n]).set (12 + i) (y : Int)) [] 0 = (m.take n, (upTo m n).length) :=
      scan_then m (fun z hz => by have := mem_len m z hz; omega) n (by omega) _ hT n _ 0 (by omega) (by omega) (by omega)
    rw [hst] at hsc
    unfold frame_Scan.f
    rw [show (0 : Int) = ((0 : Nat) : Int) from rfl, hsc, Option.bind_some, if_pos (by omega), Int.toNat_natCast,
      sameAll_f (m.take n) (m.map frame).flatten.length (by omega) (by rw [List.length_take]; omega) (fun z hz => mem_len m z (List.mem_of_mem_take hz)) k (by rw [List.length_take]; omega)]
    rfl
theorem FrameSpoilt (m : List (List Int)) (hb : ∀ x ∈ m, Byt x) (n c : Int) (h0 : 0 ≤ n) (h1 : n < 65536) (g0 : 0 ≤ c) (g1 : c < 256) : ∃ k, lockgatelaw04_FrameSpoilt.f k m n c = some true := by
  obtain ⟨k, hk⟩ : ∃ k, k = 200000 := ⟨_, rfl⟩
  refine ⟨k + 1, ?_⟩
  have dead : lockgatelaw04_FrameSpoilt.j0 (k + 1) m n c true = some true := by rw [lockgatelaw04_FrameSpoilt.j0, if_pos rfl, awake_f', Option.bind_some]
  unfold lockgatelaw04_FrameSpoilt.f
  rw [awake_f', Option.bind_some, if_pos rfl]
  obtain ⟨b, hb1, hb2⟩ := few_f m (k + 1) (by omega)
  rw [hb1, Option.bind_some]
  cases b
  · rw [if_neg (by decide)]; exact dead
  · obtain ⟨h3, h4⟩ := hb2 rfl
    rw [if_pos rfl]
    by_cases hm : (m.length : Int) = 0
    · rw [if_pos hm]; exact dead
    · rw [if_neg hm]
      by_cases hc : c = 0
      · rw [show (c == 0) = true by simp [hc]]; exact dead
      · rw [show (c == 0) = false by simp [hc]]
        obtain ⟨a, rfl⟩ : ∃ a : Nat, n = a := ⟨n.toNat, by omega⟩
        obtain ⟨d, rfl⟩ : ∃ d : Nat, c = d := ⟨c.toNat, by omega⟩
        exact spoilt_j0 m hb h3 h4 (by omega) a d (by omega) (by omega) (by omega) k (by omega)
end Go.Proofs.Ytfjhioepaekffaa.FramePure
