/- The walk of wal.Open. -/
import Derived.Test.YtdbkedipfpepbaaWalAdd
namespace Go.Proofs.Ytdbkedipfpepbaa.PWal
open Go.RowKit Go.Proofs.YtdbkedipfpepbaaW.PrintWords Go.Proofs.YtdbkedipfpepbaaW.PrintLast Go.Proofs.YtdbkedipfpepbaaW.PrintMore Go.FrameMath
set_option linter.unusedVariables false
set_option linter.unusedSimpArgs false
theorem results_tmp4 {fn : Func} {t u v x : Tmp} (h : fn.results = #[.tmp t, .tmp u, .tmp v, .tmp x]) (tmps : Array Value) (P : Program) (w : World) :
    (results fn tmps).run P w = .ok (.tuple #[tmps.getD t undef, tmps.getD u undef, tmps.getD v undef, tmps.getD x undef]) w := by
  simp [results, h]
theorem cut29 (A : Option Addr) (n c : Nat) (hm : 1 ≤ n) (W : World) : (Instr.slice 29 (.slice A n c) (some (.int .i64 1)) none none).run Try.prog W = .ok (.slice (if c = 1 then A else A.map (·.add 1)) (n - 1) (c - 1)) W := by
  obtain ⟨i, hi, _, hsz, _⟩ := info_parts info28
  have hel : Try.prog.elem 29 = 28 := by simp [Program.elem, Try.underlying29]
  have hu : Try.prog.underlying 29 = some (.slice (Try.prog.elem 29)) := by rw [hel]; exact Try.underlying29
  rw [run_slice_l W 29 A n c hu .i64 (1 : Int) (by decide) (by omega), hel]
  simp [sizeOf, typeInfo, hi, hsz, sliced, Result.andThen]
theorem at_BB {w : World} {A : Option Addr} {n : Nat} {xs : List (List Int)} (h : Kd.C (Kd.slice 5 (Kd.int .u8)) w A n xs) (i : Nat) (hx : i < xs.length) :
    ∃ ad A2 c2, A = some ad ∧ w.cell? (ad.add i) = some (.slice A2 (xs[i]).length c2) ∧ (xs[i]).length ≤ c2 ∧ (Kd.int .u8).C w A2 (xs[i]).length xs[i] := by
  have hn := h.1
  obtain ⟨ad, c, e, _, hK, hc⟩ := Kd.C_get h [] (i : Int) (by omega) (by omega)
  have hg : xs.getD (i : Int).toNat [] = xs[i] := by rw [Int.toNat_natCast, List.getD_eq_getElem?_getD, List.getElem?_eq_getElem hx]; rfl
  rw [hg] at hK
  obtain ⟨A2, c2, rfl, hl, hC⟩ := hK
  have := hc 0 _ rfl
  rw [Int.toNat_natCast, show (Kd.slice 5 (Kd.int IntKind.u8)).sz = 1 from rfl, Nat.mul_one, Nat.add_zero] at this
  exact ⟨ad, A2, c2, e, this, hl, hC⟩
theorem S_keep {W W' : World} {base : Nat} {ok : Nat → Prop} {v : Value} {xs : List (List Int)} (h : Kd.S (Kd.slice 5 (Kd.int .u8)) 28 W base ok v xs) (hk : KL W W') : Kd.S (Kd.slice 5 (Kd.int .u8)) 28 W' base ok v xs := by
  refine Kd.S_mono (Kd.S_step (Kd.S_bound h) (fun k hk1 hlt => ?_)) (fun _ h => h.1)
  obtain ⟨_, _, _, q, hq, cells, hc⟩ := hk1
  have hq : q = 28 ∨ q = 5 := by
    have : q ∈ [28, 5] := hq
    simpa using this
  rcases hq with rfl | rfl
  · exact (hk 28 (by decide) (by decide) (by decide) _ _ hc).trans hc.symm
  · exact (hk 5 (by decide) (by decide) (by decide) _ _ hc).trans hc.symm
theorem turn_any {B B0 p q M : Nat} {t u : St} {l : List Chg} {front size : Int} {A : Option Addr} {c : Nat} {rs' : List (List Int)} (w : World) (hq : w.heap[q]? = some (.cells #[.pointer (some ⟨p, 0, none⟩), .int .i64 front, .int .i64 size] 60 (0, 0))) (hR : Rep B w p (UP t u l)) (hBq : B ≤ q) (hs0 : LS8 u front rs') (hO : Ok M (UP t u l)) (hN : M + (flat rs').length + 3 ≤ 500000000) (hS : BS B0 w (.slice A (flat rs').length c) (flat rs')) :
    Calls Try.prog 27 #[.pointer (some ⟨q, 0, none⟩), .slice A (flat rs').length c] w fun e w' => e = .returned (.int .i64 0) ∧ LG B w' p q (turnSt u (1 - front) (flat rs')) (turnSt u (1 - front) (flat rs')) [] (1 - front) rs' ∧ Ok (M + (flat rs').length + 3) (UP (turnSt u (1 - front) (flat rs')) (turnSt u (1 - front) (flat rs')) []) ∧ Below B w w' ∧ KL w w' := by
  have hst := hs0.turned hs0.by_ hs0.sm hs0.le
  have h8 : (flat rs').length ≤ 100000000 := Nat.le_trans hs0.le (by decide)
  rcases hs0.fr with rfl | rfl
  · refine (turn0 w hq hR hO hN hS h8 hBq).mono ?_
    rintro e w' ⟨he, hr, hq', hb, hk⟩
    exact ⟨he, ⟨hr, hq', hBq, hst⟩, hO.t5 (.inr rfl) _, hb, hk⟩
  · refine (turn1 w hq hR hO hN hS h8 hBq).mono ?_
    rintro e w' ⟨he, hr, hq', hb, hk⟩
    exact ⟨he, ⟨hr, hq', hBq, hst⟩, hO.t5 (.inl rfl) _, hb, hk⟩
variable {B p M : Nat} {t u : St} {l : List Chg} {front : Int}
theorem firstUP : (if (UP t u l).down = true then (0 : Int) else (UP t u l).now.2.2) = u.2.2 := rfl
theorem readF (hs : LS8 u front []) : readB (UP t u l) front = [] := by rw [readUP hs.fr]; exact hs.ar
theorem readR {rs : List (List Int)} (hs : LS8 u front rs) : readB (UP t u l) front = flat rs := by rw [readUP hs.fr]; exact hs.ar
set_option maxHeartbeats 8000000 in
set_option maxRecDepth 100000 in
theorem Open_new (w : World) (hR : Rep B w p (UP t u l)) (hO : Ok M (UP t u l)) (hN : M ≤ 500000000) (hs : LS8 u front []) :
    Calls Try.prog 9 #[.pointer (some ⟨p, 0, none⟩)] w fun e w' => ∃ q, e = .returned (.tuple #[.pointer (some ⟨q, 0, none⟩), .slice none 0 0, .slice none 0 0, .int .i64 0]) ∧ LG B w' p q t u l front [] ∧ Below w.heap.size w w' := by
  have HR := Aside0.mk hR
  have HO := Aside0.mk hO
  have HN := Aside0.mk hN
  have HS := Aside0.mk hs
  have HF := Aside0.mk (show (if (UP t u l).down = true then (0 : Int) else (UP t u l).now.2.2) = front from hs.at_)
  have HE := Aside0.mk (show mayE (UP t u l) front = 0 from mayUP hs.fr)
  have HRD := Aside0.mk (readF (t := t) (l := l) hs)
  clear hR hO hN hs
  go_enter Try.func9, Try.ntmps9
  go_wp2_with (first
    | (go_at_call 13; (with_reducible refine (First_T w HR.out HF.out up_no).mono ?_); rintro e w1 ⟨rfl, rfl⟩)
    | (go_at_call 14; (with_reducible refine (Read_T w1 HR.out HO.out HN.out front HE.out HRD.out).mono ?_); rintro e w2 ⟨A2, c2, rfl, hS, hb⟩; have HR2 := Aside0.mk (HR.out.below hb); have HB2 := Aside0.mk hb; clear hS hb)
    | ((with_reducible refine gate_dst (N := 34) rfl ?_); refine box_event ?hg (N := 34) ?hd (cs := #[.pointer (some ⟨p, 0, none⟩), .int .i64 front, .int .i64 0]) (t := 60) ?hr ?_; (case hd => rfl); (case hg => rfl); (case hr => first | (go_simp; done) | (go_simp; rfl)); intro q eq w3 bq hb; have BQ := Aside0.mk bq; have EQ := Aside0.mk eq; have HR3 := Aside0.mk (HR2.out.below hb); have HB3 := Aside0.mk (below_step HB2.out hb); clear bq hb eq)
    | fail)
  (try simp only [Exit.inBlock, Exit.then])
  refine bodyPost_ret (results_tmp4 rfl _ _ _) rfl ?_
  exact ⟨q, rfl, ⟨HR3.out, BQ.out, by have h1 := EQ.out; have h2 := HR2.out.base; omega, HS.out⟩, HB3.out⟩
set_option maxHeartbeats 8000000 in
set_option maxRecDepth 100000 in
theorem Open_old {r : List Int} {rs : List (List Int)} (w : World) (hR : Rep B w p (UP t u l)) (hO : Ok M (UP t u l)) (hN : M + (flat (r :: rs)).length + 3 ≤ 500000000) (hs : LS8 u front (r :: rs)) :
    Calls Try.prog 9 #[.pointer (some ⟨p, 0, none⟩)] w fun e w' => ∃ q gr cap A0 c0, e = .returned (.tuple #[.pointer (some ⟨q, 0, none⟩), .slice A0 r.length c0, .slice (if cap = 1 then some ⟨gr, 0, none⟩ else some ⟨gr, 1, none⟩) rs.length (cap - 1), .int .i64 0]) ∧ w'.cell? ⟨gr, 0, none⟩ = some (.slice A0 r.length c0) ∧
      Kd.S (Kd.slice 5 (Kd.int .u8)) 28 w' w.heap.size (fun _ => True) (.slice (some ⟨gr, 0, none⟩) (rs.length + 1) cap) (r :: rs) ∧
      LG B w' p q (turnSt u (1 - front) (flat (r :: rs))) (turnSt u (1 - front) (flat (r :: rs))) [] (1 - front) (r :: rs) ∧ Ok (M + (flat (r :: rs)).length + 3) (UP (turnSt u (1 - front) (flat (r :: rs))) (turnSt u (1 - front) (flat (r :: rs))) []) ∧ Below B w w' ∧ KL w w' := by
  have HR := Aside0.mk hR
  have HO := Aside0.mk hO
  have HN := Aside0.mk (show M ≤ 500000000 by omega)
  have HN2 := Aside0.mk hN
  have HS := Aside0.mk hs
  have HF := Aside0.mk (show (if (UP t u l).down = true then (0 : Int) else (UP t u l).now.2.2) = front from hs.at_)
  have HE := Aside0.mk (show mayE (UP t u l) front = 0 from mayUP hs.fr)
  have HRD := Aside0.mk (readR (t := t) (l := l) hs)
  have hle := hs.le
  have hpos : 12 ≤ (flat (r :: rs)).length := flat_pos (by simp)
  have HPOS := Aside0.mk hpos
  have hfl : (frame []).length = 12 := frame_length []
  have hz : ((((flat (r :: rs)).length : Int)) == 0) = false := beq_eq_false_iff_ne.mpr (by omega)
  have hd : decide (((flat (r :: rs)).length : Int) < 12) = false := decide_eq_false (by omega)
  have hd2 : decide ((flat (r :: rs)).length < 12) = false := decide_eq_false (by omega)
  have HFL := Aside0.mk hfl
  clear hR hO hN hs
  go_enter Try.func9, Try.ntmps9
  go_wp2_with (first
    | (go_at_call 13; (with_reducible refine (First_T w HR.out HF.out up_no).mono ?_); rintro e w1 ⟨rfl, rfl⟩)
    | (go_at_call 14; (with_reducible refine (Read_T w1 HR.out HO.out HN.out front HE.out HRD.out).mono ?_); rintro e w2 ⟨A2, c2, rfl, hS, hb⟩; have HR2 := Aside0.mk (HR.out.below hb); have HB2 := Aside0.mk hb; have HS2 := Aside0.mk hS; clear hS hb)
    | ((with_reducible refine gate_dst (N := 34) rfl ?_); refine box_event ?hg (N := 34) ?hd (cs := #[.pointer (some ⟨p, 0, none⟩), .int .i64 front, .int .i64 0]) (t := 60) ?hr ?_; (case hd => rfl); (case hg => rfl); (case hr => first | (go_simp; done) | (go_simp; rfl)); intro q eq w3 bq hb; have BQ := Aside0.mk bq; have EQ := Aside0.mk eq; have HR3 := Aside0.mk (HR2.out.below hb); have HB3 := Aside0.mk (below_step HB2.out hb); have HBQ := Aside0.mk (show B ≤ q by have h1 := HR2.out.base; omega); have HS3 := Aside0.mk (HS2.out.keep (Keeps.below hb)); clear bq hb eq)
    | (go_at_call 24; (with_reducible refine (Put_nil w3).mono ?_); rintro e w4 ⟨v4, rfl, hr, hb⟩; obtain ⟨A4, c4, e4⟩ := Kd.R_slice hr; subst e4; rw [hfl]; have HR4 := Aside0.mk (HR3.out.below hb); have HB4 := Aside0.mk (below_step HB3.out hb); have BQ4 := Aside0.mk (blkK hb BQ.out); have HS4 := Aside0.mk (HS3.out.keep (Keeps.below hb)); have hn4 : (flat (r :: rs)).length ≤ c2 := (HS4.out.len).2.1; clear hr hb)
    | (go_at_call 26; (with_reducible refine (Scan_says (r :: rs) w4 (HS4.out.len).2.2 (HS4.out.len).2.1 HS.out.by_ (fun x hx => Nat.le_trans (HS.out.sm x hx) (by decide)) (Nat.lt_of_le_of_lt HS.out.le (by decide))).mono ?_); rintro e w5 ⟨v5, rfl, hs5, hb⟩; obtain ⟨gr, cap, e5, _⟩ := Kd.S_form hs5 (by simp); subst e5; have HV5 := Aside0.mk hs5; have HR5 := Aside0.mk (HR4.out.below hb); have HB5 := Aside0.mk (below_step HB4.out hb); have BQ5 := Aside0.mk (blkK hb BQ4.out); have HS5 := Aside0.mk (HS4.out.keep (Keeps.below hb)); clear hs5 hb)
    | (go_at_call 27; (with_reducible refine (turn_any (rs' := r :: rs) w5 BQ5.out HR5.out (HBQ.out) HS.out HO.out HN2.out HS5.out).mono ?_); rintro e w6 ⟨rfl, hg, ho, hb, hk⟩; have HG6 := Aside0.mk hg; have HO6 := Aside0.mk ho; have HB6 := Aside0.mk (Below.trans (Below.mono HB5.out HR.out.base) hb); have HK6 := Aside0.mk (KL.trans (KT.below HB5.out).kl hk); have HV6 := Aside0.mk (S_keep HV5.out hk); clear hg ho hb hk; obtain ⟨ad, A0, c0, ead, hz0, _, _⟩ := at_BB (Kd.S_reads' HV6.out).2.2 0 (by simp); cases ead; have hz1 : w6.cell? ⟨gr, 0, none⟩ = some (.slice A0 r.length c0) := hz0; have hcut := cut29 (some ⟨gr, 0, none⟩) (rs.length + 1) cap (by omega); clear hz0)
    | fail)
  go_quiet (fail)
  try go_wp2
  all_goals
    (try simp only [Exit.inBlock, Exit.then])
    refine bodyPost_ret (results_tmp4 rfl _ _ _) rfl ?_
    have hd6 := pw_below_drewN (Below.refl w6.heap.size w6) nq
    refine ⟨q, gr, _, A0, c0, ?_, (show (w6.drewN nq).cell? ⟨gr, 0, none⟩ = _ from hz1), Kd.S_lower (Kd.S_below HV6.out hd6) HB4.out.size, HG6.out.below hd6, HO6.out, pw_below_drewN HB6.out nq, KL.trans HK6.out (KT.below hd6).kl⟩
    first
      | (have hc : cap = 1 := by omega
         rw [if_pos hc, hc]; rfl)
      | (have hc : ¬ cap = 1 := by omega
         rw [if_neg hc]; rfl)
end Go.Proofs.Ytdbkedipfpepbaa.PWal
