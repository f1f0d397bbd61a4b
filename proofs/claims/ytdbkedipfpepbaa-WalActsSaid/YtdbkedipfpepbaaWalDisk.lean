/- What the disk's acts leave as it was: all blocks but the disk's own and its row of loose changes. -/
import Derived.Test.YtdbkedipfpepbaaDiskCrash
namespace Go.Proofs.Ytdbkedipfpepbaa.PWal
open Go.RowKit Go.Proofs.YtdbkedipfpepbaaW.PrintWords Go.Proofs.YtdbkedipfpepbaaW.PrintLast Go.Proofs.YtdbkedipfpepbaaW.PrintMore
set_option linter.unusedVariables false
set_option linter.unusedSimpArgs false
/-- all blocks of other types stay -/
def KT (W W' : World) : Prop := ∀ t : TypeId, t ≠ 58 → t ≠ 69 → Keeps t W W'
theorem KT.trans {W W1 W2 : World} (h : KT W W1) (k : KT W1 W2) : KT W W2 := fun t a b => (h t a b).trans (k t a b)
theorem KT.refl (W : World) : KT W W := fun t _ _ => Keeps.refl t W
theorem KT.below {W W' : World} (h : Below W.heap.size W W') : KT W W' := fun t _ _ => Keeps.below h
theorem KT.bs {B : Nat} {W W' : World} {v : Value} {bs : List Int} (k : KT W W') (h : BS B W v bs) : BS B W' v bs := h.keep (k 5 (by decide) (by decide))
theorem KT.grown {W W' : World} {p : Nat} {cs : Array Value} (h : W.grownBy W' (some p)) (hp : W.heap[p]? = some (.cells cs 58 (0, 0))) : KT W W' := fun t h58 _ => Keeps.grown h hp h58
def YT (W : World) : Nat → Prop := fun k => ∃ (cs : Array Value) (t : TypeId), W.heap[k]? = some (.cells cs t (0, 0)) ∧ t ≠ 58 ∧ t ≠ 69
theorem YT.lt {W : World} : ∀ k, YT W k → k < W.heap.size := fun k ⟨_, _, h, _⟩ => blk_lt h
theorem Rep.yt {B : Nat} {W : World} {p : Nat} {s : AD} (h : Rep B W p s) : RepL (YT W) B W p s := by
  obtain ⟨v0, v1, u0, u1, lo, h⟩ := h
  refine ⟨v0, v1, u0, u1, lo, h, fun k hk ⟨cs, t, hc, _, h69⟩ => ?_⟩
  obtain ⟨ys, _, ho, _⟩ := h.hl
  rcases ho.2 with ⟨rfl, _⟩ | ⟨g, cap, cur, rfl, _, hg, _⟩
  · cases hk
  · obtain rfl : g = k := by simpa [Value.ownBlock] using hk
    exact blk_ne hg hc (fun e => h69 e.symm) rfl
theorem Kp.kt {B : Nat} {W W' : World} {p : Nat} {s : AD} (h : Kp (YT W) p W W') (hR : Rep B W p s) : KT W W' := by
  intro t h58 h69 g cs hg
  obtain ⟨v0, v1, u0, u1, lo, hB, hp, _⟩ := hR
  exact (h g ⟨cs, t, hg, h58, h69⟩ (fun he => blk_ne hg hp h58 he)).trans hg
variable {B p N : Nat} {s s' : AD} {E : Int}
theorem Append_T (w : World) (hR : Rep B w p s) (hO : Ok N s) (hN : N ≤ 500000000) (a : Int) {A : Option Addr} {c : Nat} {bs : List Int} (hb : Kd.C (Kd.int .u8) w A bs.length bs) (hc : bs.length ≤ c) (hl : bs.length ≤ 100000000) (hE : mayE s a = E) (hs : s.change (0, a, bs) = s') :
    Calls Try.prog 32 #[.pointer (some ⟨p, 0, none⟩), .int .i64 a, .slice A bs.length c] w fun e w' => e = .returned (.int .i64 E) ∧ Rep B w' p s' ∧ Below B w w' ∧ KT w w' :=
  hE ▸ hs ▸ (Append_L w hR.yt YT.lt hO hN a hb hc hl).mono fun e w' h => ⟨h.1, h.2.1.rep, h.2.2.1, h.2.2.2.kt hR⟩
theorem Wipe_T (w : World) (hR : Rep B w p s) (hO : Ok N s) (hN : N ≤ 500000000) (a : Int) (hE : mayE s a = E) (hs : s.change (1, a, []) = s') :
    Calls Try.prog 42 #[.pointer (some ⟨p, 0, none⟩), .int .i64 a] w fun e w' => e = .returned (.int .i64 E) ∧ Rep B w' p s' ∧ Below B w w' ∧ KT w w' :=
  hE ▸ hs ▸ (Wipe_L w hR.yt YT.lt hO hN a).mono fun e w' h => ⟨h.1, h.2.1.rep, h.2.2.1, h.2.2.2.kt hR⟩
theorem Front_T (w : World) (hR : Rep B w p s) (hO : Ok N s) (hN : N ≤ 500000000) (a : Int) (hE : mayE s a = E) (hs : s.change (2, a, []) = s') :
    Calls Try.prog 45 #[.pointer (some ⟨p, 0, none⟩), .int .i64 a] w fun e w' => e = .returned (.int .i64 E) ∧ Rep B w' p s' ∧ Below B w w' ∧ KT w w' :=
  hE ▸ hs ▸ (Front_L w hR.yt YT.lt hO hN a).mono fun e w' h => ⟨h.1, h.2.1.rep, h.2.2.1, h.2.2.2.kt hR⟩
theorem Sync_T (w : World) (hR : Rep B w p s) (hO : Ok N s) (hN : N ≤ 500000000) (hE : (if s.down = true then (4 : Int) else 0) = E) (hs : s.sync = s') :
    Calls Try.prog 33 #[.pointer (some ⟨p, 0, none⟩)] w fun e w' => e = .returned (.int .i64 E) ∧ Rep B w' p s' ∧ Below B w w' ∧ KT w w' :=
  hE ▸ hs ▸ (Sync_L w hR.yt YT.lt hO hN).mono fun e w' h => ⟨h.1, h.2.1.rep, h.2.2.1, h.2.2.2.kt hR⟩
theorem Crash_T (w : World) (hR : Rep B w p s) (hO : Ok N s) (hN : N ≤ 500000000) (keep torn : Int) (hs : s.crash keep torn = s') :
    Calls Try.prog 23 #[.pointer (some ⟨p, 0, none⟩), .int .i64 keep, .int .i64 torn] w fun e w' => e = .returned (.tuple #[]) ∧ Rep B w' p s' ∧ Below B w w' ∧ KT w w' :=
  hs ▸ (Crash_calls w hR hO hN keep torn).mono fun e w' h => ⟨h.1, h.2.1, h.2.2.1, by
    obtain ⟨v0, v1, u0, u1, lo, hB, hp, _⟩ := hR
    exact KT.grown h.2.2.2 hp⟩
theorem Read_T (w : World) (hR : Rep B w p s) (hO : Ok N s) (hN : N ≤ 500000000) (a : Int) {bs : List Int} (hE : mayE s a = E) (hs : readB s a = bs) :
    Calls Try.prog 14 #[.pointer (some ⟨p, 0, none⟩), .int .i64 a] w fun e w' => ∃ A c, e = .returned (.tuple #[.slice A bs.length c, .int .i64 E]) ∧ BS w.heap.size w' (.slice A bs.length c) bs ∧ Below w.heap.size w w' := hE ▸ hs ▸ Read_calls w hR hO hN a
theorem First_T (w : World) (hR : Rep B w p s) {F : Int} (hF : (if s.down = true then 0 else s.now.2.2) = F) (hE : (if s.down = true then (4 : Int) else 0) = E) :
    Calls Try.prog 13 #[.pointer (some ⟨p, 0, none⟩)] w fun e w' => e = .returned (.tuple #[.int .i64 F, .int .i64 E]) ∧ w' = w := hF ▸ hE ▸ First_calls w hR
theorem Kd.C_keep {W W' : World} {A : Option Addr} {n : Nat} {bs : List Int} {g : Nat} {cs : Array Value} (h : Kd.C (Kd.int .u8) W A n bs) (hb : Below W.heap.size W W') : Kd.C (Kd.int .u8) W' A n bs := Kd.C_below h hb
theorem BS.len {B : Nat} {W : World} {A : Option Addr} {n c : Nat} {bs : List Int} (h : BS B W (.slice A n c) bs) : n = bs.length ∧ n ≤ c ∧ (Kd.int .u8).C W A n bs := by
  obtain ⟨A', c', e, hc, hC⟩ := h.reads
  injection e with e1 e2 e3
  subst e1; subst e2; subst e3
  exact ⟨rfl, hc, hC⟩
/-! ### the states of a disk that never goes down -/
/-- area 0, area 1, which is in front; what lasts of them -/
def UP (t u : St) (l : List Chg) : AD := ⟨t, u, l, -1, false⟩
theorem mayUP {t u : St} {l : List Chg} {a : Int} (h : a = 0 ∨ a = 1) : mayE (UP t u l) a = 0 := by rcases h with rfl | rfl <;> rfl
theorem changeUP {t u : St} {l : List Chg} {c : Chg} (h : c.2.1 = 0 ∨ c.2.1 = 1) : (UP t u l).change c = UP t (doSt u c) (l ++ [c]) := by
  unfold AD.change
  rw [if_pos (mayUP h)]
  rfl
theorem syncUP {t u : St} {l : List Chg} : (UP t u l).sync = UP u u [] := rfl
theorem newUP : new = UP ([], [], 0) ([], [], 0) [] := rfl
theorem readUP {t u : St} {l : List Chg} {a : Int} (h : a = 0 ∨ a = 1) : readB (UP t u l) a = if a = 0 then u.1 else u.2.1 := by rcases h with rfl | rfl <;> rfl
/-- what turn leaves: the bytes in the other area, that area in front -/
def turned (u : St) (b : List Int) : St := if u.2.2 = 0 then (u.1, b, 1) else (b, u.2.1, 0)
end Go.Proofs.Ytdbkedipfpepbaa.PWal
