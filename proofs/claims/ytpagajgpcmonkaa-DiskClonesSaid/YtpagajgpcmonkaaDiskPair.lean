/- What DiskActs and DiskClones share: a disk and the document's, one beside the other. -/
import Derived.Test.YtpagajgpcmonkaaDiskShows
namespace Go.Proofs.Ytpagajgpcmonkaa.PDisk
open Go.RowKit Go.Proofs.YtpagajgpcmonkaaW.PrintWords Go.Proofs.YtpagajgpcmonkaaW.PrintLast Go.Proofs.YtpagajgpcmonkaaW.PrintMore
set_option linter.unusedVariables false
set_option linter.unusedSimpArgs false
def dcell (d : RD) (A0 : Option Addr) (c0 : Nat) (A1 : Option Addr) (c1 : Nat) : Array Value := #[.slice A0 d.safe.length c0, .slice A1 d.loose.length c1, .int .i64 d.left, .bool d.armed, .bool d.down]
/-- a disk at p, the document's in the variable at g -/
structure AL (ok : Nat → Prop) (B : Nat) (W : World) (p g : Nat) (s : AD) (d : RD) (A0 : Option Addr) (c0 : Nat) (A1 : Option Addr) (c1 : Nat) : Prop where
  rep : RepL (fun k => ok k ∨ k = g) B W p s
  b : W.heap[g]? = some (.cells (dcell d A0 c0 A1 c1) 36 (0, 0))
  ref : RefAt ok W d A0 c0 A1 c1
  okl : ∀ k, ok k → k < W.heap.size ∧ k ≠ p ∧ k ≠ g
  gp : g ≠ p
theorem RefAt.below {ok : Nat → Prop} {W W' : World} {d : RD} {A0 A1 : Option Addr} {c0 c1 : Nat} (h : RefAt ok W d A0 c0 A1 c1) (hb : Below W.heap.size W W') : RefAt ok W' d A0 c0 A1 c1 := ⟨Kd.V_below h.v0 hb, Kd.V_below h.v1 hb⟩
variable {ok : Nat → Prop} {B : Nat} {W W' : World} {p g : Nat} {s s' : AD} {d : RD} {A0 : Option Addr} {c0 : Nat} {A1 : Option Addr} {c1 : Nat}
theorem AL.below (h : AL ok B W p g s d A0 c0 A1 c1) (hb : Below W.heap.size W W') : AL ok B W' p g s d A0 c0 A1 c1 :=
  ⟨h.rep.below hb, (hb.block g (blk_lt h.b)).trans h.b, h.ref.below hb, fun k hk => ⟨Nat.lt_of_lt_of_le (h.okl k hk).1 hb.size, (h.okl k hk).2⟩, h.gp⟩
theorem AL.ylt (h : AL ok B W p g s d A0 c0 A1 c1) : ∀ k, (ok k ∨ k = g) → k < W.heap.size := fun k hk => by
  rcases hk with hk | rfl
  · exact (h.okl k hk).1
  · exact blk_lt h.b
theorem AL.acted (h : AL ok B W p g s d A0 c0 A1 c1) (hr : RepL (fun k => ok k ∨ k = g) B W' p s') (hs : W.heap.size ≤ W'.heap.size) (hk : Kp (fun k => ok k ∨ k = g) p W W') : AL ok B W' p g s' d A0 c0 A1 c1 :=
  ⟨hr, (hk g (.inr rfl) h.gp).trans h.b, ⟨Kd.V_step h.ref.v0 (fun k ho _ => hk k (.inl ho) (h.okl k ho).2.1), Kd.V_step h.ref.v1 (fun k ho _ => hk k (.inl ho) (h.okl k ho).2.1)⟩, fun k ho => ⟨Nat.lt_of_lt_of_le (h.okl k ho).1 hs, (h.okl k ho).2⟩, h.gp⟩
/-- the document's disk turned: its variable is written anew -/
theorem AL.turned {ok' : Nat → Prop} {d' : RD} {A0' A1' : Option Addr} {c0' c1' : Nat} (h : AL ok B W p g s d A0 c0 A1 c1) (hr : RefAt ok' W d' A0' c0' A1' c1') (ho : ∀ k, ok' k → k < W.heap.size ∧ k ≠ p ∧ k ≠ g) (hrep : RepL (fun k => ok' k ∨ k = g) B W p s)
    (hb : W'.heap[g]? = some (.cells (dcell d' A0' c0' A1' c1') 36 (0, 0))) (hg : W.grownBy W' (some g)) : AL ok' B W' p g s d' A0' c0' A1' c1' := by
  obtain ⟨v0, v1, u0, u1, lo, hR, hl⟩ := hrep
  have kt : ∀ (t : TypeId), t ≠ 36 → Keeps t W W' := fun t ht => Keeps.grown hg h.b ht
  exact ⟨⟨v0, v1, u0, u1, lo, ⟨hR.hB, kt 58 (by decide) _ _ hR.hp, hR.h0.keep (kt 5 (by decide)), hR.h1.keep (kt 5 (by decide)), hR.k0.keep (kt 5 (by decide)), hR.k1.keep (kt 5 (by decide)), hR.hl.keep (kt 5 (by decide)) (kt 62 (by decide))⟩, hl⟩, hb,
    ⟨Kd.V_grown hr.v0 hg (fun k hk he => (ho k hk).2.2 (Option.some.inj he)), Kd.V_grown hr.v1 hg (fun k hk he => (ho k hk).2.2 (Option.some.inj he))⟩, fun k hk => ⟨Nat.lt_of_lt_of_le (ho k hk).1 hg.size, (ho k hk).2⟩, h.gp⟩
theorem cellB {a : Addr} {v : Value} (hb : Below W.heap.size W W') (hc : W.cell? a = some v) : W'.cell? a = some v := (hb.cell (World.block_lt_of_cell? W a hc)).trans hc
/-- a struct stored at the front of a block, as one run -/
theorem store_run {P : Program} {o : Oper} {a : Act} (t : TypeId) (q x : Operand) (ho : o.op = .store t q x) {cs cs' : Array Value} {e : TypeId} (haddr : a.eval q = .pointer (some ⟨g, 0, none⟩)) (u : Value) (hx : a.eval x = u) (hu : u.cells = cs')
    (ht : (P.info? t).map (·.size) = some cs'.toList.length) (h1 : ∀ r ∈ cs'.toList, r.oneCell' = true) (hb : W.heap[g]? = some (.cells cs e (0, 0))) (hsz : cs'.toList.length = cs.size) :
    ∃ W', (execOp a.eval o).run P W = .ok .skip W' ∧ W'.heap[g]? = some (.cells cs' e (0, 0)) ∧ W.grownBy W' (some g) := by
  have hrun : (Instr.storeAt t (.pointer (some ⟨g, 0, none⟩)) u).run P W = .ok () (W.setCells g 0 cs'.toList) := run_store_run t u cs'.toList hb (by rw [hu]) ht (by omega) h1
  obtain ⟨cur', h3, h4, h5⟩ := setCells_row cs'.toList 0 W cs hb (by omega)
  obtain ⟨s1, s2, s3, s4⟩ := setCells_same g cs'.toList 0 W
  have hcur : cur' = cs' := by
    apply Array.ext'
    rw [h5, List.take_zero, List.nil_append, List.drop_eq_nil_of_le (by rw [Array.length_toList]; omega), List.append_nil]
  subst hcur
  refine ⟨_, ?_, h3, ⟨s1, s2, s3, by rw [s4]; exact Nat.le_refl _, fun k _ hk => setCells_far _ _ k (fun he => hk (by rw [he]))⟩⟩
  unfold execOp
  simp only [ho, haddr, hx, Sem.run_bind, Sem.run_pure, Result.andThen_ok, hrun]
theorem put_step {P : Program} {ops : Array Oper} {Q : Exit → Act → World → Prop} {oi : Oper} {a : Act} {K : Act → World → Prop} (hw : Region.wanted oi (yielded ops a.tmps) = true) (hN : oi.dst = none) (t : TypeId) (q x : Operand) (ho : oi.op = .store t q x) {cs cs' : Array Value} {e : TypeId} (haddr : a.eval q = .pointer (some ⟨g, 0, none⟩)) (u : Value) (hx : a.eval x = u) (hu : u.cells = cs')
    (ht : (P.info? t).map (·.size) = some cs'.toList.length) (h1 : ∀ r ∈ cs'.toList, r.oneCell' = true) (hb : W.heap[g]? = some (.cells cs e (0, 0))) (hsz : cs'.toList.length = cs.size)
    (h : ∀ W', W'.heap[g]? = some (.cells cs' e (0, 0)) → W.grownBy W' (some g) → K a W') : if Region.wanted oi (yielded ops a.tmps) = true then Oper.wp P oi a W K Q else K (a.put none undef) W := by
  obtain ⟨W', hr, hb', hg⟩ := store_run (P := P) (o := oi) t q x ho haddr u hx hu ht h1 hb hsz
  exact skip_ hw hN hr (h W' hb' hg)
theorem RepL.or3 {Y Y' : Nat → Prop} (h : RepL Y B W p s) (hY : ∀ k, Y' k → Y k ∨ k < B ∨ W.heap.size ≤ k) : RepL Y' B W p s := by
  obtain ⟨v0, v1, u0, u1, lo, h, hl⟩ := h
  refine ⟨v0, v1, u0, u1, lo, h, fun k hk hy => ?_⟩
  have h2 := h.hl.own_at k hk
  have h3 : B ≤ k := by
    obtain ⟨ys, _, ho, _⟩ := h.hl
    rcases ho.2 with ⟨rfl, _⟩ | ⟨q, cap, cur, rfl, hB, hg, _⟩
    · cases hk
    · obtain rfl : q = k := by simpa [Value.ownBlock] using hk
      exact hB
  rcases hY k hy with h1 | h1 | h1
  · exact hl k hk h1
  · omega
  · omega
theorem Play_E {Y : Nat → Prop} {N : Nat} {E : Int} (w : World) (hRL : RepL Y B w p s) (hY : ∀ k, Y k → k < w.heap.size) (hO : Ok N s) (hN : N ≤ 500000000) (x : S39) {A : Option Addr} {c : Nat} (hx : Kd.C (Kd.int .u8) w A x.f2.length x.f2) (hc : x.f2.length ≤ c) (hl : x.f2.length ≤ 100000000) (h0 : 0 ≤ x.f0) (h1 : x.f0 ≤ 255) (hE : playE s x = E) (hs : s.play x = s') :
    Calls Try.prog 15 #[.pointer (some ⟨p, 0, none⟩), .agg #[.int .u8 x.f0, .int .i64 x.f1, .slice A x.f2.length c, .int .i64 x.f3, .int .i64 x.f4]] w fun e w' => e = .returned (.int .i64 E) ∧ RepL Y B w' p s' ∧ Below B w w' ∧ Kp Y p w w' := hE ▸ hs ▸ Play_L w hRL hY hO hN x hx hc hl h0 h1
theorem okx {A2 : Option Addr} {n : Nat} {l : List Int} (h : Kd.C (Kd.int .u8) W A2 n l) : Kd.F (Kd.int .u8) W (fun k => k < W.heap.size) A2 n l := Kd.C_F (Kd.heap_int _) h
end Go.Proofs.Ytpagajgpcmonkaa.PDisk
