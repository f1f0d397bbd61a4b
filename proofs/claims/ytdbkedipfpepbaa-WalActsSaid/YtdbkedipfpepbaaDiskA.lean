import Derived.Test.YtdbkedipfpepbaaDiskMem
namespace Go.Proofs.Ytdbkedipfpepbaa.PWal
open Go.RowKit Go.Proofs.YtdbkedipfpepbaaW.PrintWords Go.Proofs.YtdbkedipfpepbaaW.PrintLast Go.Proofs.YtdbkedipfpepbaaW.PrintMore
set_option linter.unusedVariables false
set_option linter.unusedSimpArgs false
variable {p : Nat} {v0 v1 u0 u1 lo : Value} {f g left : Int} {dn : Bool}
theorem area_says (n : Int) : disk_area.f n = some (decide (n = 0 ∨ n = 1)) := by
  unfold disk_area.f
  by_cases h : n = 0
  · rw [if_pos h, decide_eq_true (Or.inl h)]
  · rw [if_neg h]; by_cases h1 : n = 1
    · rw [decide_eq_true (Or.inr h1), h1]; rfl
    · rw [decide_eq_false (by omega)]; simp [h1]
set_option maxHeartbeats 8000000 in
set_option maxRecDepth 100000 in
theorem may_calls (w : World) (n : Int) (hp : w.heap[p]? = some (.cells (dcells v0 v1 f u0 u1 g lo left dn) 58 (0, 0))) :
    Calls Try.prog 29 #[.pointer (some ⟨p, 0, none⟩), .int .i64 n] w fun e w' => e = .returned (.int .i64 (if n ≠ 0 ∧ n ≠ 1 then 1 else if dn = true then 4 else 0)) ∧ Drawn0 w w' := by
  have h8 : w.cell? ⟨p, 8, none⟩ = some (.bool dn) := (blk_cell hp 8).trans rfl
  clear hp
  have HA := Aside0.mk (area_says n)
  by_cases hn : n = 0 ∨ n = 1
  · rw [decide_eq_true hn] at HA
    rw [if_neg (by omega)]
    cases dn
    all_goals
      go_enter Try.func29, Try.ntmps29
      go_wp2_with (first | (go_at_call 46; (with_reducible refine (disk_area.calls n true _ HA.out).mono ?_); rintro e w' ⟨rfl, ⟨nd, rfl⟩⟩) | fail)
      go_ret
      exact ⟨rfl, by repeat (first | exact Drawn0.refl _ | apply Drawn0.step)⟩
  · rw [decide_eq_false hn] at HA
    rw [if_pos (by omega)]
    go_enter Try.func29, Try.ntmps29
    go_wp2_with (first | (go_at_call 46; (with_reducible refine (disk_area.calls n false _ HA.out).mono ?_); rintro e w' ⟨rfl, ⟨nd, rfl⟩⟩) | fail)
    go_ret
    exact ⟨rfl, by repeat (first | exact Drawn0.refl _ | apply Drawn0.step)⟩
/-- one block is written, of what was there -/
theorem grown_set {W : World} {k j : Nat} {u : Value} : W.grownBy (W.setCell ⟨k, j, none⟩ u) (some k) := ⟨rfl, rfl, rfl, by simp [World.setCell], fun q _ hq => Below.heap_setCell W _ u q (fun he => hq (by rw [he]))⟩
set_option maxHeartbeats 8000000 in
set_option maxRecDepth 100000 in
theorem count_calls (w : World) (hp : w.heap[p]? = some (.cells (dcells v0 v1 f u0 u1 g lo left dn) 58 (0, 0))) (hl : -9223372036854775808 ≤ left) (hl2 : left ≤ 9223372036854775807) :
    Calls Try.prog 50 #[.pointer (some ⟨p, 0, none⟩)] w fun e w' => e = .returned (.tuple #[]) ∧ w'.heap[p]? = some (.cells (dcells v0 v1 f u0 u1 g lo (countD left dn).1 (countD left dn).2) 58 (0, 0)) ∧ w.grownBy w' (some p) := by
  have h7 : w.cell? ⟨p, 7, none⟩ = some (.int .i64 left) := (blk_cell hp 7).trans rfl
  have h8 : w.cell? ⟨p, 8, none⟩ = some (.bool dn) := (blk_cell hp 8).trans rfl
  have f7 := blk_frozen hp 7
  have f8 := blk_frozen hp 8
  have HP := Aside0.mk hp
  clear hp
  unfold countD
  by_cases h : left > 0
  · have hw : IntKind.i64.wrap (left - 1) = left - 1 := by rw [IntKind.wrap_i64]; omega
    rw [if_pos h]
    by_cases h1 : left - 1 = 0
    · go_enter Try.func50, Try.ntmps50
      go_wp2
      go_end0
      refine ⟨rfl, ?_, ?_⟩
      · have := blk_set (blk_set HP.out 7 (.int .i64 (left - 1))) 8 (.bool true)
        rw [decide_eq_true h1]
        rw [h1] at this ⊢
        exact this
      · exact World.grownBy.trans grown_set grown_set
    · go_enter Try.func50, Try.ntmps50
      go_wp2
      go_end0
      refine ⟨rfl, ?_, ?_⟩
      · have := blk_set (blk_set HP.out 7 (.int .i64 (left - 1))) 8 (.bool false)
        rw [decide_eq_false h1, show (left - 1 == 0) = false from beq_eq_false_iff_ne.2 h1]
        exact this
      · exact World.grownBy.trans grown_set grown_set
  · rw [if_neg h]
    go_enter Try.func50, Try.ntmps50
    go_wp2
    go_end0
    exact ⟨rfl, HP.out, ⟨rfl, rfl, rfl, Nat.le_refl _, fun _ _ _ => rfl⟩⟩

set_option maxHeartbeats 8000000 in
set_option maxRecDepth 100000 in
theorem first_calls (w : World) (hp : w.heap[p]? = some (.cells (dcells v0 v1 f u0 u1 g lo left dn) 58 (0, 0))) :
    Calls Try.prog 13 #[.pointer (some ⟨p, 0, none⟩)] w fun e w' => e = .returned (.tuple #[.int .i64 (if dn = true then 0 else g), .int .i64 (if dn = true then 4 else 0)]) ∧ w' = w := by
  have h8 : w.cell? ⟨p, 8, none⟩ = some (.bool dn) := (blk_cell hp 8).trans rfl
  have h5 : w.cell? ⟨p, 5, none⟩ = some (.int .i64 g) := (blk_cell hp 5).trans rfl
  clear hp
  cases dn
  all_goals
    go_enter Try.func13, Try.ntmps13
    go_wp2
    go_ret2
    exact ⟨rfl, rfl⟩
set_option maxHeartbeats 8000000 in
set_option maxRecDepth 100000 in
theorem new_calls (w : World) : Calls Try.prog 8 #[] w fun e w' => e = .returned (.pointer (some ⟨w.heap.size, 0, none⟩)) ∧ Rep w.heap.size w' w.heap.size new ∧ Below w.heap.size w w' := by
  go_enter Try.func8, Try.ntmps8
  go_wp2_with (first
    | ((with_reducible refine gate_dst (N := 2) rfl ?_); refine box_event ?hg (N := 2) ?hd (cs := dcells (.slice none 0 0) (.slice none 0 0) 0 (.slice none 0 0) (.slice none 0 0) 0 (.slice none 0 0) (-1) false) (t := 58) ?hr ?_; (case hd => rfl); (case hg => rfl); (case hr => first | (go_simp; done) | (go_simp; rfl)); intro g2 e2 w1 b2 hb1; have B2 := Aside0.mk b2; have HB := Aside0.mk hb1; have E2 := Aside0.mk e2; clear b2 hb1 e2)
    | fail)
  go_ret
  have e := E2.out
  subst e
  exact ⟨rfl, ⟨_, _, _, _, _, Nat.le_refl _, B2.out, BS.nil _ _, BS.nil _ _, BS.nil _ _, BS.nil _ _, LS.nil _ _⟩, HB.out⟩
end Go.Proofs.Ytdbkedipfpepbaa.PWal
