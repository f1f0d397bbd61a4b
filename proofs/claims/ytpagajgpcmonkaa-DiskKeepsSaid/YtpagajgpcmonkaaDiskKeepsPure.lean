/- What DiskKeeps leans on: bytes of one's own beside a disk, and what a crash leaves of what was appended. -/
import Derived.Test.YtpagajgpcmonkaaDiskLib
namespace Go.Proofs.Ytpagajgpcmonkaa.PDisk
open Go.RowKit Go.Proofs.YtpagajgpcmonkaaW.PrintWords Go.Proofs.YtpagajgpcmonkaaW.PrintLast Go.Proofs.YtpagajgpcmonkaaW.PrintMore
set_option linter.unusedVariables false
set_option linter.unusedSimpArgs false
def app (t : St) (bs : List (List Int)) : AD := ⟨t, (t.1, t.2.1 ++ bs.flatten, t.2.2), bs.map (fun b => (0, 1, b)), -1, false⟩
theorem app_nil (t : St) : (⟨t, t, [], -1, false⟩ : AD) = app t [] := by
  unfold app
  simp
theorem app_step (t : St) (bs : List (List Int)) (b : List Int) : (app t bs).change (0, 1, b) = app t (bs ++ [b]) := by
  unfold app
  simp [AD.change, mayE, AD.count, countD, doSt]
theorem app_ok0 {t : St} : ∀ (bs pre : List (List Int)) (N : Nat), Ok N (app t pre) → (∀ b ∈ bs, b.length ≤ 200) → Ok (N + bs.length * 201) (app t (pre ++ bs)) := by
  intro bs
  induction bs with
  | nil => intro pre N h _; rw [List.append_nil]; exact h.mono (by omega)
  | cons b bs ih =>
    intro pre N h hb
    have h1 := h.change (0, 1, b) ⟨.inl rfl, .inr rfl⟩
    rw [app_step] at h1
    have h2 := hb b (List.mem_cons_self ..)
    have h3 := ih (pre ++ [b]) _ h1 (fun x hx => hb x (List.mem_cons_of_mem _ hx))
    rw [List.append_assoc, List.singleton_append] at h3
    exact h3.mono (by rw [List.length_cons]; show N + b.length + 1 + _ ≤ _; omega)
theorem app_ok {t : St} (h : Ok 8040 ⟨t, t, [], -1, false⟩) (bs : List (List Int)) (hb : ∀ b ∈ bs, b.length ≤ 200) : Ok (8040 + bs.length * 201) (app t bs) := by
  have := app_ok0 bs [] 8040 (app_nil t ▸ h) hb
  rwa [List.nil_append] at this
theorem app_ok' {t : St} (h : Ok 8040 ⟨t, t, [], -1, false⟩) (bs : List (List Int)) (hb : ∀ b ∈ bs, b.length ≤ 200) (hl : bs.length ≤ 20) : Ok 12060 (app t bs) := (app_ok h bs hb).mono (by omega)
theorem n12060 : 12060 ≤ 500000000 := by decide
theorem kept_app (keep torn : Int) : ∀ (bs : List (List Int)) (i : Int), ∃ pre, pre <+: bs.flatten ∧ ∀ t : St, (kept keep torn (bs.map fun b => (0, 1, b)) i).foldl doSt t = (t.1, t.2.1 ++ pre, t.2.2) := by
  intro bs
  induction bs with
  | nil => intro i; exact ⟨[], List.nil_prefix, fun t => by simp [kept]⟩
  | cons b bs ih =>
    intro i
    simp only [List.map_cons, kept]
    by_cases h : i < keep
    · obtain ⟨pre, hp, he⟩ := ih (i + 1)
      refine ⟨b ++ pre, ?_, fun t => ?_⟩
      · rw [List.flatten_cons]; exact (List.prefix_append_right_inj b).mpr hp
      · rw [if_pos h, List.foldl_cons, he]; simp [doSt]
    · rw [if_neg h]
      by_cases h0 : 0 < torn
      · rw [if_pos ⟨trivial, h0⟩]
        refine ⟨b.take torn.toNat, ?_, fun t => by simp [doSt]⟩
        rw [List.flatten_cons]
        exact (List.take_prefix _ b).trans (List.prefix_append b _)
      · rw [if_neg (fun hh => h0 hh.2)]
        exact ⟨[], List.nil_prefix, fun t => by simp⟩
theorem app_crash (t : St) (bs : List (List Int)) (keep torn : Int) : ∃ pre, pre <+: bs.flatten ∧ (app t bs).crash keep torn = ⟨(t.1, t.2.1 ++ pre, t.2.2), (t.1, t.2.1 ++ pre, t.2.2), [], -1, false⟩ := by
  obtain ⟨pre, hp, he⟩ := kept_app keep torn bs 0
  refine ⟨pre, hp, ?_⟩
  show (⟨_, _, _, _, _⟩ : AD) = _
  unfold app
  dsimp only
  rw [he t]
theorem begins0 (a pre : List Int) : a = (a ++ pre).take a.length := by simp
theorem begins1 {a pre l : List Int} (h : pre <+: l) : a ++ pre = (a ++ l).take (a ++ pre).length :=
  List.prefix_iff_eq_take.mp ((List.prefix_append_right_inj a).mpr h)
theorem len_flat (bs : List (List Int)) (hb : ∀ b ∈ bs, b.length ≤ 200) : bs.flatten.length ≤ bs.length * 200 := by
  induction bs with
  | nil => simp
  | cons b bs ih =>
    have h1 := ih (fun x hx => hb x (List.mem_cons_of_mem _ hx))
    have h2 := hb b (List.mem_cons_self ..)
    simp only [List.flatten_cons, List.length_append, List.length_cons]
    omega
theorem R_keep {B : Nat} {ok : Nat → Prop} {W W' : World} {v : Value} {bs : List Int} (h : (Kd.int .u8).R 5 W B ok v bs) (hk : Keeps 5 W W') : (Kd.int .u8).R 5 W' B ok v bs := by
  obtain ⟨h0, inner, ho, hr⟩ := h
  refine ⟨h0, inner, ⟨ho.1, ?_⟩, hr⟩
  rcases ho.2 with h1 | ⟨g, cap, cur, hv, hB, hg, r⟩
  · exact .inl h1
  · exact .inr ⟨g, cap, cur, hv, hB, hk _ _ hg, r⟩
/-- a disk, bytes of one's own, and two more that lie elsewhere -/
structure KL (B : Nat) (X : Nat → Prop) (W : World) (p : Nat) (s : AD) (all : Value) (al : List Int) (was oth : Value) (ws os : List Int) : Prop where
  rep : RepX X B W p s
  row : (Kd.int .u8).R 5 W B X all al
  xl : ∀ k, X k → k < W.heap.size
  w0 : BS B W was ws
  w1 : Off X was
  o0 : BS B W oth os
  o1 : Off X oth
theorem KL.acted {B : Nat} {X : Nat → Prop} {W W' : World} {p : Nat} {s s' : AD} {all was oth : Value} {al ws os : List Int} (h : KL B X W p s all al was oth ws os) (hr : RepX X B W' p s') (hb : W.heap.size ≤ W'.heap.size) (hk : Keeps 5 W W') : KL B X W' p s' all al was oth ws os :=
  ⟨hr, R_keep h.row hk, fun k hx => Nat.lt_of_lt_of_le (h.xl k hx) hb, h.w0.keep hk, h.w1, h.o0.keep hk, h.o1⟩
theorem KL.grew {B : Nat} {X : Nat → Prop} {W W' : World} {p : Nat} {s : AD} {all all' was oth : Value} {al al' ws os : List Int} (h : KL B X W p s all al was oth ws os) (hg : W.grownBy W' all.ownBlock)
    (hr : (Kd.int .u8).R 5 W' B (fun k => X k ∨ W.heap.size ≤ k) all' al') : KL B (fun k => (X k ∨ W.heap.size ≤ k) ∧ k < W'.heap.size) W' p s all' al' was oth ws os := by
  have hb := Kd.R_bound h.row
  have hx : ∀ k, all.ownBlock = some k → X k ∧ ∃ cs, W.heap[k]? = some (.cells cs 5 (0, 0)) := fun k hk => by
    obtain ⟨h0, _, _, q, hq, cells, hc⟩ := hb.1 k hk
    have : q = 5 := List.mem_singleton.1 (show q ∈ [5] from hq)
    exact ⟨h0, cells, this ▸ hc⟩
  have kb : ∀ {v : Value} {bs : List Int}, BS B W v bs → Off X v → BS B W' v bs := fun hb hn => hb.else_ fun g cs hv hc => (hg.block g (blk_lt hc) (fun he => hn g hv (hx g he.symm).1)).trans hc
  have nf : ∀ {v : Value} {bs : List Int}, BS B W v bs → Off X v → Off (fun k => (X k ∨ W.heap.size ≤ k) ∧ k < W'.heap.size) v := fun hb hn k hk hx => by
    rcases hx.1 with h1 | h1
    · exact hn k hk h1
    · have := (hb.own_at k hk).2.1; omega
  refine ⟨(h.rep.or (X' := fun k => X k ∨ W.heap.size ≤ k) (fun k hk => hk)).grown hg (fun k hk => ⟨.inl (hx k hk).1, (hx k hk).2⟩) |>.or (fun k hk => .inl hk.1), ?_, fun k hk => hk.2, kb h.w0 h.w1, nf h.w0 h.w1, kb h.o0 h.o1, nf h.o0 h.o1⟩
  exact Kd.R_mono (Kd.R_bound hr) (fun k hk => ⟨hk.1, hk.2.2.1⟩)
theorem at_BB {w : World} {A : Option Addr} {n : Nat} {xs : List (List Int)} (h : Kd.C (Kd.slice 5 (Kd.int .u8)) w A n xs) (i : Nat) (hx : i < xs.length) :
    ∃ ad A2 c2, A = some ad ∧ w.cell? (ad.add i) = some (.slice A2 (xs[i]).length c2) ∧ (xs[i]).length ≤ c2 ∧ (Kd.int .u8).C w A2 (xs[i]).length xs[i] := by
  have hn := h.1
  obtain ⟨ad, c, e, _, hK, hc⟩ := Kd.C_get h [] (i : Int) (by omega) (by omega)
  have hg : xs.getD (i : Int).toNat [] = xs[i] := by rw [Int.toNat_natCast, List.getD_eq_getElem?_getD, List.getElem?_eq_getElem hx]; rfl
  rw [hg] at hK
  obtain ⟨A2, c2, rfl, hl, hC⟩ := hK
  have := hc 0 _ rfl
  rw [Int.toNat_natCast, show (Kd.slice 5 (Kd.int IntKind.u8)).sz = 1 from rfl, Nat.mul_one, Nat.add_zero] at this
  exact ⟨ad, A2, c2, e, this, hl, hC⟩
end Go.Proofs.Ytpagajgpcmonkaa.PDisk
