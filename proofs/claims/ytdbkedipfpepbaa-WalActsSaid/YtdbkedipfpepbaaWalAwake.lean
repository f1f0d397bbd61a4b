/- The walk of the wal laws' awake. -/
import Derived.Test.YtdbkedipfpepbaaWalOpened
import Derived.Lib.SlBytesConst
namespace Go.Proofs.Ytdbkedipfpepbaa.PWal
open Go.RowKit Go.Proofs.YtdbkedipfpepbaaW.PrintWords Go.Proofs.YtdbkedipfpepbaaW.PrintLast Go.Proofs.YtdbkedipfpepbaaW.PrintMore Go.FrameMath
set_option linter.unusedVariables false
set_option linter.unusedSimpArgs false
theorem C_of_block {W : World} {g : Nat} {cs : Array Value} {t : Nat} {fr : Nat × Nat} {bs : List Int} (h : W.heap[g]? = some (.cells cs t fr)) (hm : bs.length ≤ 9223372036854775807) (hc : ∀ (j : Nat) (b : Int), bs[j]? = some b → cs[j]? = some (.int .u8 b)) : Kd.C (Kd.int .u8) W (some ⟨g, 0, none⟩) bs.length bs := by
  refine ⟨rfl, hm, fun hn => ⟨_, rfl, fun j p hj => ⟨[.int .u8 p], rfl, rfl, fun i u hu => ?_⟩⟩⟩
  match i, hu with
  | 0, hu => rw [add_plain, show (Kd.int IntKind.u8).sz = 1 from rfl, cell_of_row W g _ _ t fr h, show j * 1 + 0 = j by omega, hc j p hj]; simpa using hu
  | i + 1, hu => simp at hu
theorem one_byte (x : Int) : ∀ (j : Nat) (b : Int), [x][j]? = some b → #[Value.int .u8 x][j]? = some (.int .u8 b)
  | 0, b, h => by simpa using h
  | j + 1, b, h => by simp at h
def U0 : St := ([], [], 0)
def Ra : List (List Int) := [[], [97]]
def Rb : List (List Int) := [[], [97], [98]]
def U1 : St := doSt U0 (0, 0, addB [] [97])
def U2 : St := doSt U1 (0, 0, addB Ra [98])
theorem ra : added [] [97] = Ra := rfl
theorem rb : added Ra [98] = Rb := rfl
theorem fa : (flat Ra).length = 25 := by simp [Ra, flat, frame_length]
theorem fb : (flat Rb).length = 38 := by simp [Rb, flat, frame_length]
theorem la : (addB [] [97]).length = 25 := by simp [addB, frame_length]
theorem lb : (addB Ra [98]).length = 13 := by simp [addB, Ra, frame_length]
theorem byt1 (x : Int) (h : 0 ≤ x ∧ x < 256) : Byt [x] := fun y hy => by rw [List.mem_singleton.1 hy]; exact h
theorem ls0 : LS8 U0 0 [] := ⟨.inl rfl, rfl, rfl, by simp, by simp, by simp [flat]⟩
theorem ls1 : LS8 U1 0 Ra := ls0.add [97] (byt1 97 ⟨by decide, by decide⟩) (by simp) (by rw [ra, fa]; decide)
theorem crashed : (UP U1 U2 [(0, 0, addB Ra [98])]).crash 0 0 = UP U1 U1 [] := rfl
theorem ok0 : Ok 0 (UP U0 U0 []) := Ok.new
theorem ok1 : Ok 26 (UP U0 U1 [(0, 0, addB [] [97])]) := (changeUP (t := U0) (u := U0) (l := []) (c := (0, 0, addB [] [97])) (.inl rfl) ▸ ok0.change (0, 0, addB [] [97]) ⟨.inl rfl, .inl rfl⟩ : Ok _ (UP U0 U1 [(0, 0, addB [] [97])])).mono (by show 0 + (addB [] [97]).length + 1 ≤ 26; rw [la]; decide)
theorem ok2 : Ok 26 (UP U1 U1 []) := ok1.sync
theorem ok3 : Ok 40 (UP U1 U2 [(0, 0, addB Ra [98])]) := (changeUP (t := U1) (u := U1) (l := []) (c := (0, 0, addB Ra [98])) (.inl rfl) ▸ ok2.change (0, 0, addB Ra [98]) ⟨.inl rfl, .inl rfl⟩ : Ok _ (UP U1 U2 [(0, 0, addB Ra [98])])).mono (by show 26 + (addB Ra [98]).length + 1 ≤ 40; rw [lb]; decide)
theorem ok4 : Ok 40 (UP U1 U1 []) := crashed ▸ ok3.crash 0 0
theorem n0 : 0 ≤ 500000000 := by decide
theorem n26 : 26 ≤ 500000000 := by decide
theorem n40 : 40 ≤ 500000000 := by decide
theorem AddA {B p q : Nat} {A : Option Addr} {c : Nat} (w : World) (hL : LG B w p q U0 U0 [] 0 []) (hC : Kd.C (Kd.int .u8) w A 1 [97]) (hc : 1 ≤ c) :
    Calls Try.prog 19 #[.pointer (some ⟨q, 0, none⟩), .slice A 1 c] w fun e w' => e = .returned (.int .i64 0) ∧ LG B w' p q U0 U1 [(0, 0, addB [] [97])] 0 Ra ∧ Below B w w' ∧ KL w w' :=
  (Add_calls (r := [97]) w hL ok0 (by rw [la]; decide) hC hc (byt1 97 ⟨by decide, by decide⟩) (by simp) (by rw [ra, fa]; decide)).mono fun e w' h => ⟨h.1, h.2.1, h.2.2.2⟩
theorem AddB {B p q : Nat} {A : Option Addr} {c : Nat} (w : World) (hL : LG B w p q U1 U1 [] 0 Ra) (hC : Kd.C (Kd.int .u8) w A 1 [98]) (hc : 1 ≤ c) :
    Calls Try.prog 19 #[.pointer (some ⟨q, 0, none⟩), .slice A 1 c] w fun e w' => e = .returned (.int .i64 0) ∧ LG B w' p q U1 U2 [(0, 0, addB Ra [98])] 0 Rb ∧ Below B w w' ∧ KL w w' :=
  (Add_calls (r := [98]) w hL ok2 (by rw [lb]; decide) hC hc (byt1 98 ⟨by decide, by decide⟩) (by simp) (by rw [rb, fb]; decide)).mono fun e w' h => ⟨h.1, h.2.1, h.2.2.2⟩
theorem SizeB {B p q : Nat} {t u : St} {l : List Chg} (w : World) (hL : LG B w p q t u l 0 Rb) : Calls Try.prog 15 #[.pointer (some ⟨q, 0, none⟩)] w fun e w' => e = .returned (.int .i64 38) ∧ w' = w := by
  have := Size_calls w hL
  rw [fb] at this
  exact this
set_option maxHeartbeats 8000000 in
set_option maxRecDepth 100000 in
theorem awake_calls (w : World) : Calls Try.prog 6 #[] w fun e w' => e = .returned (.bool true) ∧ Below w.heap.size w w' := by
  go_enter Try.func6, Try.ntmps6
  go_wp2_with (first
    | (go_at_call 8; (with_reducible refine (new_calls w).mono ?_); rintro e w1 ⟨rfl, hR, hb⟩; have HR1 := Aside0.mk (show Rep w.heap.size w1 w.heap.size (UP U0 U0 []) from hR); have HB1 := Aside0.mk hb; clear hR hb)
    | (go_at_call 9; (with_reducible refine (Open_new w1 HR1.out ok0 n0 ls0).mono ?_); rintro e w2 ⟨q, rfl, hg, hb⟩; have HG2 := Aside0.mk hg; have HB2 := Aside0.mk (below_step HB1.out hb); have hcb := Go.Lib.run_convert_bytes_const (P := Try.prog) w2 28 5 #[.int .u8 97] 1 1 Try.underlying28 Try.underlying5; clear hg hb)
    | fail)
  clear hcb
  have LIT := Aside0.mk (C_of_block (bs := [97]) (heap_alloc_new w2 (.cells #[.int .u8 97] 5 (1, 2))) (by simp) (one_byte 97))
  have HGn := Aside0.mk (HG2.out.below (below_al w2 (.cells #[.int .u8 97] 5 (1, 2))))
  have HBn := Aside0.mk (below_step HB2.out (below_al w2 (.cells #[.int .u8 97] 5 (1, 2))))
  clear HG2 HB2
  generalize w2.alloc (.cells #[.int .u8 97] 5 (1, 2)) = w3 at LIT HGn HBn ⊢
  generalize w2.heap.size = gl97 at LIT ⊢
  refine (AddA w3 HGn.out LIT.out (by decide)).mono ?_
  rintro e w4 ⟨rfl, hg, hb, hk⟩
  have HG4 := Aside0.mk hg
  have HB4 := Aside0.mk (HBn.out.trans hb)
  clear hg hb hk HGn HBn LIT
  go_wp2_with (first
    | (go_at_call 22; (with_reducible refine (Flush_calls w4 HG4.out ok1 n26).mono ?_); rintro e w5 ⟨rfl, hg, _, hb, _⟩; have HG5 := Aside0.mk hg; have HB5 := Aside0.mk (HB4.out.trans hb); have hcb := Go.Lib.run_convert_bytes_const (P := Try.prog) w5 28 5 #[.int .u8 98] 1 1 Try.underlying28 Try.underlying5; clear hg hb)
    | fail)
  clear hcb
  have LIT := Aside0.mk (C_of_block (bs := [98]) (heap_alloc_new w5 (.cells #[.int .u8 98] 5 (1, 2))) (by simp) (one_byte 98))
  have HGn := Aside0.mk (HG5.out.below (below_al w5 (.cells #[.int .u8 98] 5 (1, 2))))
  have HBn := Aside0.mk (below_step HB5.out (below_al w5 (.cells #[.int .u8 98] 5 (1, 2))))
  clear HG5 HB5
  generalize w5.alloc (.cells #[.int .u8 98] 5 (1, 2)) = w6 at LIT HGn HBn ⊢
  generalize w5.heap.size = gl98 at LIT ⊢
  refine (AddB w6 HGn.out LIT.out (by decide)).mono ?_
  rintro e w7 ⟨rfl, hg, hb, hk⟩
  have HG7 := Aside0.mk hg
  have HB7 := Aside0.mk (HBn.out.trans hb)
  clear hg hb hk HGn HBn LIT
  go_wp2_with (first
    | (go_at_call 15; (with_reducible refine (SizeB w7 HG7.out).mono ?_); rintro e w8 ⟨rfl, rfl⟩)
    | (go_at_call 23; (with_reducible refine (Crash_T w8 HG7.out.rep ok3 n40 0 0 crashed).mono ?_); rintro e w9 ⟨rfl, hr, hb, hk⟩; have HR9 := Aside0.mk hr; have HB9 := Aside0.mk (HB7.out.trans hb); clear hr hb hk)
    | (go_at_call 9; (with_reducible refine (Open_old (r := []) (rs := [[97]]) w9 HR9.out ok4 (by rw [show flat [[], [97]] = flat Ra from rfl, fa]; decide) ls1).mono ?_); rintro e wa ⟨q2, gr, cap, A0, c0, rfl, hz, hv, hg, ho, hb, hk⟩; have HBa := Aside0.mk (HB9.out.trans hb); have HCD := Kd.C_drop (m := 1) (c := cap) (Kd.S_reads' hv).2.2 (by simp) (Kd.S_reads' hv).2.1; obtain ⟨ad, A8, c8, ead, hz8, hl8, hC8⟩ := at_BB (show Kd.C (Kd.slice 5 (Kd.int .u8)) wa (if cap = 1 then some ⟨gr, 0, none⟩ else some ⟨gr, 1, none⟩) 1 [[97]] from HCD) 0 (by simp); have hcv := Kd.C_string (P := Try.prog) (c := c8) (dst := 9) Try.underlying28 Try.underlying5 Try.underlying9 (show (Kd.int .u8).C wa A8 1 [97] from hC8); rw [show strOfNums [97] = { data := #[97] } by rfl] at hcv; have hz9 : wa.cell? ad = some (.slice A8 1 c8) := (by have := hz8; rw [Addr.add_zero'] at this; exact this); rw [ead]; clear hz hv hg ho hb hk HCD hz8 hl8 hC8 ead)
    | fail)
  go_ret
  exact ⟨rfl, HBa.out⟩
end Go.Proofs.Ytdbkedipfpepbaa.PWal
