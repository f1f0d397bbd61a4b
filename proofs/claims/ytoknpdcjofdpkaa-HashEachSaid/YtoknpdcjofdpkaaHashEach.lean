/- Of whatever text, place and byte: HashEach answers true: one byte turned turns the sum. -/
import Derived.Test.YtoknpdcjofdpkaaPHashEachx1
import Derived.Test.YtoknpdcjofdpkaaMath
import Derived.Lib.ConvBytes
import Derived.Lib.AtoiErrMem
namespace Go.Proofs.Ytoknpdcjofdpkaa.HashEach
open Go.RowKit Go.Proofs.Ytoknpdcjofdpkaa.PHashEach Go.Proofs.YtoknpdcjofdpkaaW.PrintWords Go.Proofs.YtoknpdcjofdpkaaW.PrintLast Go.HashMath
set_option linter.unusedVariables false
set_option linter.unusedSimpArgs false
theorem bt_nat (s : ByteArray) (i : Nat) (h : i < s.size) : bt s (i : Int) = ((s.data.toList[i]'(by simpa using h)).toNat : Int) := by
  have h' : ((i : Int).toNat) < s.size := by omega
  unfold bt
  rw [dif_pos h']
  simp only [Int.toNat_natCast]
  rfl
theorem drop_cons (s : ByteArray) (i : Nat) (h : i < s.size) : s.data.toList.drop i = (s.data.toList[i]'(by simpa using h)) :: s.data.toList.drop (i + 1) :=
  List.drop_eq_getElem_cons (by simpa using h)
theorem sum_loop (s : ByteArray) (hs : s.size ≤ 140737488351232) : ∀ (d k i h : Nat), d = s.size - i → i ≤ s.size → d < k → h < 18446744073709551616 →
    hash_Sum.l0 k s (h : Int) (s.size : Int) (i : Int) = some ((sums h (s.data.toList.drop i) : Nat) : Int) := by
  intro d
  induction d with
  | zero =>
    intro k i h hd hi hk _
    obtain ⟨k, rfl⟩ : ∃ m, k = m + 1 := ⟨k - 1, by omega⟩
    have e : s.data.toList.drop i = [] := List.drop_eq_nil_of_le (by simp; show s.size ≤ i; omega)
    simp only [hash_Sum.l0]
    rw [if_neg (by omega), e]
    rfl
  | succ d ih =>
    intro k i h hd hi hk hh
    obtain ⟨k, rfl⟩ : ∃ m, k = m + 1 := ⟨k - 1, by omega⟩
    have hlt : i < s.size := by omega
    have hw : wrap64 ((i : Int) + 1) = ((i + 1 : Nat) : Int) := by unfold wrap64; omega
    simp only [hash_Sum.l0]
    rw [if_pos (by omega), if_pos (by omega), if_pos (by omega), hw, bt_nat s i hlt, step_eq h _ hh (UInt8.toNat_lt _),
      ih k (i + 1) _ (by omega) (by omega) (by omega) (step_lt _ _), drop_cons s i hlt]
    rfl
theorem sum_f (s : ByteArray) (hs : s.size ≤ 140737488351232) (k : Nat) (hk : s.size < k) :
    hash_Sum.f k s = some ((sums 14695981039346656037 s.data.toList : Nat) : Int) := by
  unfold hash_Sum.f
  have := sum_loop s hs s.size k 0 14695981039346656037 (by omega) (by omega) hk (by decide)
  exact this
theorem awake_f (k : Nat) (hk : 1 < k) : lockgatelaw02_awake.f k = some true := by
  unfold lockgatelaw02_awake.f
  rw [sum_f _ (by decide) k (by show 0 < k; omega), sum_f _ (by decide) k (by show 1 < k; omega)]
  simp only [Option.bind_some]
  rw [if_pos (by decide)]
  decide
theorem sums_inj : ∀ (l : List UInt8) (a b : Nat), a < 18446744073709551616 → b < 18446744073709551616 → sums a l = sums b l → a = b
  | [], _, _, _, _, h => h
  | c :: l, a, b, ha, hb, h => step_inj a b c.toNat ha hb (UInt8.toNat_lt c) (sums_inj l _ _ (step_lt _ _) (step_lt _ _) h)
theorem sums_set : ∀ (l : List UInt8) (i : Nat) (x : UInt8) (h : Nat), h < 18446744073709551616 → i < l.length → sums h (l.set i x) = sums h l → l.set i x = l
  | [], _, _, _, _, hi, _ => by simp at hi
  | c :: l, 0, x, h, hh, _, he => by
    have h1 : HashMath.step h x.toNat = HashMath.step h c.toNat := sums_inj l _ _ (step_lt _ _) (step_lt _ _) he
    have h2 := step_inj' h x.toNat c.toNat hh (UInt8.toNat_lt x) (UInt8.toNat_lt c) h1
    rw [List.set_cons_zero, UInt8.toNat_inj.1 h2]
  | c :: l, i + 1, x, h, hh, hi, he => by
    rw [List.set_cons_succ, sums_set l i x _ (step_lt h c.toNat) (by simpa using hi) he]
theorem bytes_inj {a b : ByteArray} (h : a.data.toList = b.data.toList) : a = b := by
  cases a; cases b
  congr 1
  exact Array.ext' h
theorem strOf_list (xs : List Int) : (strOfNums xs).data.toList = xs.map (fun x => UInt8.ofNat x.toNat) := by simp [strOfNums]
theorem strOf_set (s : ByteArray) (i : Nat) (c : Int) : (strOfNums ((bytesOf s).set i c)).data.toList = s.data.toList.set i (UInt8.ofNat c.toNat) := by
  rw [strOf_list, List.map_set]
  congr 1
  rw [bytesOf, List.map_map]
  conv => rhs; rw [← List.map_id s.data.toList]
  apply List.map_congr_left
  intro b _
  simp
theorem each (s : ByteArray) (i : Nat) (c : Int) (hi : i < s.size) : (decide ((sums 14695981039346656037 s.data.toList : Nat) = sums 14695981039346656037 (strOfNums ((bytesOf s).set i c)).data.toList)) = decide (s = strOfNums ((bytesOf s).set i c)) := by
  rw [strOf_set]
  by_cases h : s = strOfNums ((bytesOf s).set i c)
  · rw [decide_eq_true h, ← strOf_set, ← h]
    exact decide_eq_true rfl
  · rw [decide_eq_false h]
    refine decide_eq_false (fun he => h (bytes_inj ?_))
    rw [strOf_set]
    exact (sums_set _ i _ _ (by decide) (by simpa using hi) he.symm).symm

theorem fin_true (s t : ByteArray) (h : decide (sums 14695981039346656037 s.data.toList = sums 14695981039346656037 t.data.toList) = decide (s = t)) :
    ((((sums 14695981039346656037 s.data.toList : Nat) : Int) == ((sums 14695981039346656037 t.data.toList : Nat) : Int)) == (s.toList == t.toList)) = true := by
  rw [ByteArray.toList_eq, ByteArray.toList_eq]
  by_cases he : s = t
  · subst he
    simp
  · have h1 : sums 14695981039346656037 s.data.toList ≠ sums 14695981039346656037 t.data.toList := by
      intro h2
      rw [decide_eq_true h2, decide_eq_false he] at h
      cases h
    have h2 : s.data.toList ≠ t.data.toList := fun h3 => he (bytes_inj h3)
    generalize sums 14695981039346656037 s.data.toList = x at *
    generalize sums 14695981039346656037 t.data.toList = y at *
    rw [show ((x : Int) == (y : Int)) = false by rw [beq_eq_false_iff_ne]; omega, show (s.data.toList == t.data.toList) = false from beq_eq_false_iff_ne.2 h2]
    rfl

set_option maxHeartbeats 8000000 in
set_option maxRecDepth 100000 in
theorem each_aw0 (s : ByteArray) (a c : Int) (w : World) (h : s.size = 0) : Calls Try.prog 4 #[.string s, .int .u16 a, .int .u8 c] w fun e w' => e = .returned (.bool true) ∧ Below w.heap.size w w' := by
  have h0 : ((s.size : Int) == 0) = true := by rw [h]; rfl
  go_enter Try.func4, Try.ntmps4
  go_wp2_with fail
  refine (lockgatelaw02_awake.calls 2 true _ (awake_f 2 (by decide))).mono ?_
  rintro e w1 ⟨rfl, hd⟩
  have hb := hd.below
  clear hd
  go_wp2
  go_ret
  exact ⟨rfl, hb⟩
set_option maxHeartbeats 8000000 in
set_option maxRecDepth 100000 in
theorem each_aw1 (s : ByteArray) (a c : Int) (w : World) (h : s.size ≠ 0) (h1 : 5000 < s.size) : Calls Try.prog 4 #[.string s, .int .u16 a, .int .u8 c] w fun e w' => e = .returned (.bool true) ∧ Below w.heap.size w w' := by
  have h0 : ((s.size : Int) == 0) = false := by rw [beq_eq_false_iff_ne]; omega
  have h2 : decide ((5000 : Int) < (s.size : Int)) = true := decide_eq_true (by omega)
  go_enter Try.func4, Try.ntmps4
  go_wp2_with fail
  refine (lockgatelaw02_awake.calls 2 true _ (awake_f 2 (by decide))).mono ?_
  rintro e w1 ⟨rfl, hd⟩
  have hb := hd.below
  clear hd
  go_wp2
  go_ret
  exact ⟨rfl, hb⟩
set_option maxHeartbeats 8000000 in
set_option maxRecDepth 100000 in
theorem each_main (s : ByteArray) (a c : Int) (i : Nat) (w : World) (h : s.size ≠ 0) (h1 : s.size ≤ 5000) (ha : 0 ≤ a ∧ a < 65536) (hi : Int.tmod a (s.size : Int) = (i : Int)) (hi1 : i < s.size) : Calls Try.prog 4 #[.string s, .int .u16 a, .int .u8 c] w fun e w' => e = .returned (.bool true) ∧ Below w.heap.size w w' := by
  have h0 : ((s.size : Int) == 0) = false := by rw [beq_eq_false_iff_ne]; omega
  have h2 : decide ((5000 : Int) < (s.size : Int)) = false := decide_eq_false (by omega)
  have hne : (s.size : Int) ≠ 0 := by omega
  have hw : IntKind.i64.wrap a = a := by simp [IntKind.wrap, IntKind.bits, IntKind.signed]; omega
  have hcv := print_bytes (P := Try.prog) 9 27 5 Try.underlying9 Try.underlying27 Try.underlying5 s w
  have hcell : (Lib.bytesWorld w 5 s).cell? ⟨w.heap.size, i, none⟩ = some (.int .u8 (s.data.toList.getD i 0).toNat) := Lib.bytesWorld_cell w 5 s i hi1
  have hnew := Lib.bytesWorld_at_new w 5 s
  have hfr : (Lib.bytesWorld w 5 s).frozen? ⟨w.heap.size, i, none⟩ = false := by
    have hc := hcell
    unfold World.cell? at hc
    unfold World.frozen?
    rw [hnew] at hc ⊢
    have hlt : i < (Lib.bytesCells w 5 s).size := (Array.getElem?_eq_some_iff.1 hc).1
    simp
    omega
  have hrd : ReadsInt ((Lib.bytesWorld w 5 s).setCell ⟨w.heap.size, i, none⟩ (.int .u8 c)) .u8 (some ⟨w.heap.size, 0, none⟩) s.size ((bytesOf s).set i c) := by
    refine ⟨by rw [List.length_set]; exact bytesOf_length s, by omega, fun _ => ⟨_, rfl, fun j hj => ?_⟩⟩
    have hl : i < (bytesOf s).length := by rw [bytesOf_length]; exact hi1
    rw [add_plain]
    by_cases hij : j = i
    · subst hij
      rw [World.cell?_setCell_same (h := hcell), List.getD_eq_getElem?_getD, List.getElem?_set_self hl]
      rfl
    · rw [World.cell?_setCell_other (h := show (⟨w.heap.size, i, none⟩ : Addr) ≠ ⟨w.heap.size, j, none⟩ from fun he => hij (congrArg Addr.off he).symm)]
      have h3 := (bytes_reads w 5 s (by omega)).2.2 (by omega)
      obtain ⟨ad, e, h4⟩ := h3
      obtain rfl := Option.some.inj e
      have h5 := h4 j hj
      rw [add_plain] at h5
      rw [h5, List.getD_eq_getElem?_getD, List.getD_eq_getElem?_getD, List.getElem?_set_ne (Ne.symm hij)]
  have hcs := string_of_reads (P := Try.prog) (src := 27) (dst := 9) (e := 5) (c := grownCap w s.size 0 5) Try.underlying27 Try.underlying5 Try.underlying9 hrd
  have hE := each s i c hi1
  obtain ⟨t, ht⟩ : ∃ t, t = strOfNums ((bytesOf s).set i c) := ⟨_, rfl⟩
  have hts : t.size = s.size := by
    have := strOf_set s i c
    rw [← ht] at this
    have h2 := congrArg List.length this
    rw [List.length_set] at h2
    simpa using h2
  rw [← ht] at hcs hE
  have HS := Aside0.mk (sum_f s (by omega) 6000 (by omega))
  have HT := Aside0.mk (sum_f t (by omega) 6000 (by omega))
  have HBW := Aside0.mk (below_set (v := .int .u8 c) (j := i) (Lib.bytesWorld_below w 5 s) (Nat.le_refl _))
  have HE := Aside0.mk hE
  clear hrd hE hnew ht hts
  go_enter Try.func4, Try.ntmps4
  go_wp2_with fail
  generalize (Lib.bytesWorld w 5 s).setCell ⟨w.heap.size, i, none⟩ (.int .u8 c) = w1 at *
  refine (lockgatelaw02_awake.calls 2 true _ (awake_f 2 (by decide))).mono ?_
  rintro e w2 ⟨rfl, hd⟩
  have n1 := Aside0.mk (below_step HBW.out hd.below)
  clear hd
  go_wp2_with fail
  refine (hash_Sum.calls 6000 s _ _ HS.out).mono ?_
  rintro e w3 ⟨rfl, hd⟩
  have n2 := Aside0.mk (below_step n1.out hd.below)
  clear hd n1
  go_wp2_with fail
  refine (hash_Sum.calls 6000 t _ _ HT.out).mono ?_
  rintro e w4 ⟨rfl, hd⟩
  have n3 := Aside0.mk (below_step n2.out hd.below)
  clear hd n2
  have HF := Aside0.mk (fin_true s t HE.out)
  clear hcs hcv hcell hfr HE HS HT
  go_wp2
  go_ret
  exact ⟨by rw [HF.out]; rfl, n3.out⟩
theorem each_calls (s : ByteArray) (a c : Int) (ha : 0 ≤ a ∧ a < 65536) (w : World) : Calls Try.prog 4 #[.string s, .int .u16 a, .int .u8 c] w fun e w' => e = .returned (.bool true) ∧ Below w.heap.size w w' := by
  by_cases h : s.size = 0
  · exact each_aw0 s a c w h
  · by_cases h1 : 5000 < s.size
    · exact each_aw1 s a c w h h1
    · have h2 := Int.tmod_nonneg (s.size : Int) ha.1
      have h3 := Int.tmod_lt_of_pos a (show (0 : Int) < s.size by omega)
      exact each_main s a c (Int.tmod a (s.size : Int)).toNat w h (by omega) ha (by omega) (by omega)
end Go.Proofs.Ytoknpdcjofdpkaa.HashEach
