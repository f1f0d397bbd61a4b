/- What frame.number and the iterator of slices.Backward over bytes do: the number whose lowest byte stands first. Conditions: none. -/
import Derived.RangeFuncBox
import Derived.RangeFuncNested
import Derived.RangeFuncBound
import Derived.RangeFuncCalls
import Derived.RangeFuncLeaves
import Derived.Shelf.Abstract
import Derived.Shelf.RegionOpen
import Derived.WalkKit
import Derived.OwnWalkIn
import Derived.TacticsInMore
import Derived.LoopNIn
import Derived.LoopIn
import Derived.Test.YtdbkedipfpepbaaProg
import Derived.Test.YtdbkedipfpepbaaWWords
namespace Go.Proofs.Ytdbkedipfpepbaa.Number
open Go.RowKit Go.Shelf Go.Proofs.YtdbkedipfpepbaaW.PrintWords
attribute [local go_sem] Oper.semAt_some
set_option linter.unusedVariables false
/-- what has come when k rounds are over -/
def bup (zs : List Int) (k : Nat) : List (Int × Int) := (List.range k).map fun j => (((zs.length - 1 - j : Nat) : Int), rd zs ((zs.length - 1 - j : Nat) : Int))
theorem bup_zero (zs : List Int) : bup zs 0 = [] := rfl
theorem bup_length (zs : List Int) (k : Nat) : (bup zs k).length = k := by simp [bup]
theorem bup_step (zs : List Int) (m : Nat) (h : m < zs.length) : bup zs (zs.length - m) = bup zs (zs.length - (m + 1)) ++ [((m : Int), rd zs (m : Int))] := by
  have e : zs.length - m = zs.length - (m + 1) + 1 := by omega
  rw [e]
  unfold bup
  rw [List.range_succ, List.map_append, List.map_singleton, show zs.length - 1 - (zs.length - (m + 1)) = m by omega]
/-- what a round keeps: all below n₀, and the box of the slice -/
def Kq (n₀ Bs : Nat) (W W' : World) : Prop := Below n₀ W W' ∧ ∀ v, W.cell? ⟨Bs, 0, none⟩ = some v → W'.cell? ⟨Bs, 0, none⟩ = some v
theorem Kq.refl (n₀ Bs : Nat) (W : World) : Kq n₀ Bs W W := ⟨Below.refl _ _, fun _ h => h⟩
theorem Kq.trans {n₀ Bs : Nat} {A B C : World} (h : Kq n₀ Bs A B) (k : Kq n₀ Bs B C) : Kq n₀ Bs A C := ⟨h.1.trans k.1, fun v e => k.2 v (h.2 v e)⟩
theorem kq_b {n₀ Bs : Nat} {w : World} (hn : n₀ ≤ w.heap.size) (W : World) (l : Nat) (o o' : Obj) (hl : w.heap.size ≤ l) (h : W.heap[l]? = some o) (hc : o.isCells = false) (hw : o.isWalk = false) : Kq n₀ Bs W (W.putObj l o') :=
  ⟨belowK_b hn W l o o' hl h hc hw, fun v e => cell_kept e (grownBy_putObj' W l o') (fun r e => by cases e; exact ⟨_, h, hc⟩)⟩
theorem kq_set {n₀ Bs b : Nat} (W : World) (h : n₀ ≤ b) (hb : b ≠ Bs) (v : Value) : Kq n₀ Bs W (W.setCell ⟨b, 0, none⟩ v) :=
  ⟨(Below.refl n₀ W).setCell (p := ⟨b, 0, none⟩) h _, fun u e => (World.cell?_setCell_far W _ _ v hb).trans e⟩
theorem block_add (a : Addr) (n : Nat) : (a.add n).block = a.block := by unfold Addr.add; split <;> rfl
set_option maxRecDepth 100000 in
set_option maxHeartbeats 2000000 in
theorem back1_in (F : Fence) (n : Nat) (h27 : F.fn 54) (hro : F.round = none) (hn : 1 ≤ n) (l Bs n₀ cap : Nat) (ad : Addr) (zs : List Int) (hreach : zs.length ≤ 140737488351232) (hb : ad.block < n₀) (J Jx : List (Int × Int) → World → Prop)
    (hY : ∀ pre x W, J pre W → pre.length < zs.length → YieldAt F (n - 1) Try.prog l #[.int .i64 x.1, .int .u8 x.2] W fun e W' =>
      (e = .returned (.bool true) ∧ J (pre ++ [x]) W' ∧ Kq n₀ Bs W W') ∨ (e = .returned (.bool false) ∧ Jx (pre ++ [x]) W'))
    (W : World) (hBs : W.cell? ⟨Bs, 0, none⟩ = some (.slice (some ad) zs.length cap)) (hc : ∀ j : Nat, j < zs.length → W.cell? (ad.add j) = some (.int .u8 (rd zs (j : Int)))) (h0 : J [] W) :
    CallsIn F n Try.prog 54 #[.func (.yield l) #[] #[], .pointer (some ⟨Bs, 0, none⟩)] W fun e W' => (∃ v, e = .returned v) ∧
      ((∃ ys, ys = bup zs zs.length ∧ J ys W') ∨ (∃ pre, (∃ k, k ≤ zs.length ∧ pre = bup zs k) ∧ Jx pre W')) := by
  refine callsIn_of_wp Try.func54 rfl h27 ?_ hro
  simp only [Try.ntmps54, List.size_toArray, List.length_cons, List.length_nil, Nat.reduceAdd, Nat.reduceSub, Array.replicate_succ, Array.replicate_zero, List.push_toArray, List.append_toArray, List.nil_append, List.cons_append]
  gi_wp2
  gi_loopw [3] (fun i wr => ∃ k : Nat, k ≤ zs.length ∧ i = .int .i64 ((k : Int) - 1) ∧ J (bup zs (zs.length - k)) wr ∧ Kq n₀ Bs W wr)
    (fun i _ => (intOf i + 1).toNat)
  case atStart => exact ⟨zs.length, Nat.le_refl _, by congr 1, by rw [Nat.sub_self]; exact h0, Kq.refl _ _ _⟩
  case round =>
    obtain ⟨k, hk, rfl, hJs, hnx⟩ := hrel
    have hBs' : wr.cell? ⟨Bs, 0, none⟩ = some (.slice (some ad) zs.length cap) := hnx.2 _ hBs
    cases k with
    | zero =>
      simp only [Nat.sub_zero] at hJs
      gi_wp2
      go_end0
      exact ⟨⟨_, rfl⟩, .inl ⟨_, rfl, hJs⟩⟩
    | succ m =>
      have hlt : m < zs.length := by omega
      have hcx : wr.cell? (ad.add m) = some (.int .u8 (rd zs (m : Int))) := (hnx.1.cell (p := ad.add m) (by rw [block_add]; exact hb)).trans (hc m hlt)
      rw [show ((m + 1 : Nat) : Int) - 1 = (m : Int) by omega] at *
      obtain ⟨fn, tmps, assign, body, hy, hR⟩ := hY _ ((m : Int), rd zs (m : Int)) wr hJs (by rw [bup_length]; omega)
      dsimp only at hy
      gi_wp2
      refine hR.mono ?_
      rintro e W3 (⟨rfl, hJ3, hk3⟩ | ⟨rfl, hJx3⟩)
      · gi_wp2
        go_roundw
        case rel => exact ⟨m, by omega, by congr 1, by rw [bup_step zs m hlt]; exact hJ3, hnx.trans hk3⟩
        case measure => simp [intOf]
      · gi_wp2
        refine bodyPost_ret (results_none rfl _ _ _) rfl ?_
        exact ⟨⟨_, rfl⟩, .inr ⟨_, ⟨zs.length - m, by omega, (bup_step zs m hlt).symm⟩, hJx3⟩⟩
/-- THE SLICE VALUE holds the bytes zs, in a block below n₀; or there are none. -/
def Held (n₀ : Nat) (W : World) (A : Option Addr) (zs : List Int) : Prop :=
  (zs = []) ∨ ∃ ad, A = some ad ∧ ad.block < n₀ ∧ ∀ j : Nat, j < zs.length → W.cell? (ad.add j) = some (.int .u8 (rd zs (j : Int)))
theorem Held.below {n₀ : Nat} {A B : World} (h : Below n₀ A B) {o : Option Addr} {zs : List Int} : Held n₀ A o zs → Held n₀ B o zs
  | .inl e => .inl e
  | .inr ⟨ad, e, hb, hc⟩ => .inr ⟨ad, e, hb, fun j hj => (h.cell (p := ad.add j) (by rw [block_add]; exact hb)).trans (hc j hj)⟩
theorem held_of {w : World} {A : Option Addr} {zs : List Int} (h : Kd.C (Kd.int .u8) w A zs.length zs) : Held w.heap.size w A zs := by
  rcases Nat.eq_zero_or_pos zs.length with h0 | h0
  · exact .inl (List.eq_nil_of_length_eq_zero h0)
  · obtain ⟨ad, e, hx⟩ := Kd.at_int h 0 (by omega) (by omega)
    refine .inr ⟨ad, e, ?_, fun j hj => ?_⟩
    · have := World.block_lt_of_cell? w _ hx
      rw [block_add] at this
      exact this
    · obtain ⟨ad', e', hx'⟩ := Kd.at_int h (j : Int) (by omega) (by omega)
      rw [e] at e'
      obtain rfl := Option.some.inj e'
      exact hx'
set_option maxRecDepth 100000 in
set_option maxHeartbeats 1000000 in
theorem back1_nil_in (F : Fence) (n : Nat) (h27 : F.fn 54) (hro : F.round = none) (l Bs : Nat) (A : Option Addr) (cap : Nat) (J : List (Int × Int) → World → Prop) (W : World) (hBs : W.cell? ⟨Bs, 0, none⟩ = some (.slice A 0 cap)) (h0 : J [] W) :
    CallsIn F n Try.prog 54 #[.func (.yield l) #[] #[], .pointer (some ⟨Bs, 0, none⟩)] W fun e W' => (∃ v, e = .returned v) ∧ J [] W' := by
  refine callsIn_of_wp Try.func54 rfl h27 ?_ hro
  simp only [Try.ntmps54, List.size_toArray, List.length_cons, List.length_nil, Nat.reduceAdd, Nat.reduceSub, Array.replicate_succ, Array.replicate_zero, List.push_toArray, List.append_toArray, List.nil_append, List.cons_append]
  gi_wp2
  gi_loopw [3] (fun i wr => i = .int .i64 (-1) ∧ J [] wr) (fun _ _ => 0)
  case atStart => exact ⟨rfl, h0⟩
  case round =>
    obtain ⟨rfl, hJs⟩ := hrel
    gi_wp2
    go_end0
    exact ⟨⟨_, rfl⟩, hJs⟩
set_option maxHeartbeats 1000000 in
theorem back_in (F : Fence) (n : Nat) (h26 : F.fn 52) (hro : F.round = none) (a : Option Addr) (len cap : Nat) (w : World) :
    CallsIn F n Try.prog 52 #[.slice a len cap] w fun e w' => e = .returned (.func (.func 54) #[] #[.pointer (some ⟨w.heap.size, 0, none⟩)]) ∧ w' = w.alloc (.cells #[.slice a len cap] 28) := by
  refine callsIn_of_wp Try.func52 rfl h26 ?_ hro
  simp only [Try.ntmps52, List.size_toArray, List.length_cons, List.length_nil, Nat.reduceAdd, Nat.reduceSub, Array.replicate_succ, Array.replicate_zero, List.push_toArray, List.append_toArray, List.nil_append, List.cons_append]
  gi_wp2
  go_ret
  exact ⟨rfl, rfl⟩
theorem back_stops (F : Fence) (n : Nat) (h27 : F.fn 54) (hro : F.round = none) (hn : 1 ≤ n) (Bs n₀ : Nat) (A : Option Addr) (cap : Nat) (zs : List Int) (hreach : zs.length ≤ 140737488351232) (w : World) (hBs : Bs < w.heap.size) (hn₀ : n₀ ≤ w.heap.size)
    (hc : w.cell? ⟨Bs, 0, none⟩ = some (.slice A zs.length cap)) (hI : Held n₀ w A zs) :
    SeqStopsK F n Try.prog 54 #[.pointer (some ⟨Bs, 0, none⟩)] (fun x : Int × Int => #[Value.int .i64 x.1, Value.int .u8 x.2]) (Kq n₀ Bs) (fun ys => ys = bup zs zs.length)
      (fun pre => ∃ k, k ≤ zs.length ∧ pre = bup zs k) zs.length w := fun l J Jx W hW _ _ hY h0 => by
  have hc' := (hW.cell (p := ⟨Bs, 0, none⟩) hBs).trans hc
  rcases hI.below (hW.mono hn₀) with rfl | ⟨ad, rfl, hb, hcs⟩
  · exact (back1_nil_in F n h27 hro l Bs A cap J W hc' h0).mono fun e W' ⟨he, hj⟩ => ⟨he, .inl ⟨_, rfl, hj⟩⟩
  · exact back1_in F n h27 hro hn l Bs n₀ cap ad zs hreach hb J Jx hY W hc' hcs h0
def stepW (s c : Int) : Int := Go.bits .or .u64 (IntKind.u64.wrap (s * 256)) (IntKind.u64.wrap c)
def numW : List (Int × Int) → Int := List.foldl (fun s x => stepW s x.2) 0
theorem numW_snoc (pre : List (Int × Int)) (x : Int × Int) : numW (pre ++ [x]) = stepW (numW pre) x.2 := by simp [numW]
set_option maxRecDepth 100000 in
set_option maxHeartbeats 2000000 in
theorem number_in (F : Fence) (n : Nat) (h22 : F.fn 39) (h26 : F.fn 52) (h27 : F.fn 54) (hro : F.round = none) (hn : 3 ≤ n) (a : Option Addr) (cap : Nat) (zs : List Int) (hreach : zs.length ≤ 140737488351232) (w : World) (hI : Held w.heap.size w a zs) :
    CallsIn F n Try.prog 39 #[.slice a zs.length cap] w fun e W' => e = .returned (.int .u64 (numW (bup zs zs.length))) ∧ Below w.heap.size w W' := by
  have h1 : 1 ≤ n := by omega
  refine callsIn_of_wp_marks Try.func39 rfl h22 ?_ hro
  simp only [Try.ntmps39, List.size_toArray, List.length_cons, List.length_nil, Nat.reduceAdd, Nat.reduceSub, Array.replicate_succ, Array.replicate_zero, List.push_toArray, List.append_toArray, List.nil_append, List.cons_append]
  gi_wp2_with (gi_at_call 52; refine (back_in F (n - 1) h26 hro _ _ _ _).mono ?_; rintro e w' ⟨rfl, rfl⟩)
  have bS := Boxed.new w 73 (.int .u64 0)
  have bN := Boxed.new (w.alloc (.cells #[.int .u64 0] 73)) 28 (.slice a zs.length cap)
  rw [World.size_alloc] at bN
  have hB0 : Below w.heap.size w ((w.alloc (.cells #[.int .u64 0] 73)).alloc (.cells #[.slice a zs.length cap] 28)) := ((Below.refl _ w).alloc (Nat.le_refl _) _).alloc (by simp) _
  refine wpIn_rangeFunc_ownG hro h1 (gf := 54) (lb := #[.pointer (some ⟨w.heap.size + 1, 0, none⟩)]) rfl h27 (enters_of Try.func54 (by kernel_rfl) rfl)
    (back_stops F (n - 1) h27 hro (by omega) (w.heap.size + 1) w.heap.size _ _ zs hreach _ (by simp) (by simp; omega) bN.cell (hI.below hB0)) Kq.trans (kq_b (by simp; omega)) (Below.refl _ _) (fun _ => rfl)
    (fun pre W => (W.cell? ⟨w.heap.size, 0, none⟩ = some (.int .u64 (numW pre)) ∧ W.frozen? ⟨w.heap.size, 0, none⟩ = false) ∧ Below w.heap.size w W)
    (fun _ _ _ => False)
    (OwnFrom.and (Own.from (fun s A B row hs hg hr => ⟨cell_kept hs.1 hg hr, (frozen_kept hs.1 hg hr).trans hs.2⟩) _) (ownFrom_below (Nat.le_refl _) (by simp; omega)))
    (fun _ _ _ _ _ hs _ _ => hs)
    ⟨⟨(bS.alloc _).cell, (bS.alloc _).frozen⟩, hB0⟩
    (fun x => { tmps := #[.slice a zs.length cap, undef, .int .u64 0, .pointer (some ⟨w.heap.size, 0, none⟩), undef, .int .u8 x.2, .slice a zs.length cap, .func (.func 54) #[] #[.pointer (some ⟨w.heap.size + 1, 0, none⟩)], .int .i64 x.1, .int .u8 x.2, undef, undef, undef, undef, undef, undef], defers := [] }) ?assign ?body ?done ?stop
  case assign =>
    intro l x W K hK
    gi_wp2
    exact hK
  case body =>
    rintro l pre x W ⟨⟨hc, hf⟩, hB⟩ _
    gi_wp2
    exact ⟨(KeepsOthers.setCell _ _ _).from _, kq_set W (Nat.le_refl _) (by omega) _, ⟨by rw [numW_snoc]; exact World.cell?_setCell_same' _ _ _ (by rw [hc]; rfl), by rw [World.frozen?_setCell]; exact hf⟩, hB.setCell (p := ⟨w.heap.size, 0, none⟩) (Nat.le_refl _) _⟩
  case done =>
    rintro D ys W hD rfl ⟨⟨hc, _⟩, hB⟩ hK
    gi_wp2
    refine ⟨by simp, .inl ⟨_, _, rfl, run_takeDeferred hK, ?_⟩⟩
    exact ⟨_, results_tmp rfl _ _ _, rfl, hB.trans (belowK_b (w := w) (Nat.le_refl _) W D _ _ (by simp at hD; omega) hK rfl rfl)⟩
  case stop =>
    rintro D c pre W _ _ h _
    exact h.elim
end Go.Proofs.Ytdbkedipfpepbaa.Number
