/- The walks of wal.steps and Log.turn. -/
import Derived.Test.YtdbkedipfpepbaaWalClo
import Derived.LoopN
namespace Go.Proofs.Ytdbkedipfpepbaa.PWal
open Go.RowKit Go.Proofs.YtdbkedipfpepbaaW.PrintWords Go.Proofs.YtdbkedipfpepbaaW.PrintLast Go.Proofs.YtdbkedipfpepbaaW.PrintMore
set_option linter.unusedVariables false
set_option linter.unusedSimpArgs false
/-- the states between turn's steps -/
def T1 (t u : St) (l : List Chg) (a : Int) : AD := UP t (doSt u (1, a, [])) (l ++ [(1, a, [])])
def T2 (t u : St) (l : List Chg) (a : Int) (b : List Int) : AD := UP t (doSt (doSt u (1, a, [])) (0, a, b)) (l ++ [(1, a, [])] ++ [(0, a, b)])
def T3 (u : St) (a : Int) (b : List Int) : AD := UP (doSt (doSt u (1, a, [])) (0, a, b)) (doSt (doSt u (1, a, [])) (0, a, b)) []
def T4 (u : St) (a : Int) (b : List Int) : AD := UP (doSt (doSt u (1, a, [])) (0, a, b)) (doSt (doSt (doSt u (1, a, [])) (0, a, b)) (2, a, [])) [(2, a, [])]
def T5 (u : St) (a : Int) (b : List Int) : AD := UP (doSt (doSt (doSt u (1, a, [])) (0, a, b)) (2, a, [])) (doSt (doSt (doSt u (1, a, [])) (0, a, b)) (2, a, [])) []
variable {B B0 p q g2 g3 g5 gf M : Nat} {t u : St} {l : List Chg} {a front size : Int}
theorem t1 (h : a = 0 ∨ a = 1) : (UP t u l).change (1, a, []) = T1 t u l a := changeUP h
theorem t2 (h : a = 0 ∨ a = 1) (b : List Int) : (T1 t u l a).change (0, a, b) = T2 t u l a b := changeUP h
theorem t3 (b : List Int) : (T2 t u l a b).sync = T3 u a b := rfl
theorem t4 (h : a = 0 ∨ a = 1) (b : List Int) : (T3 u a b).change (2, a, []) = T4 u a b := changeUP h
theorem t5 (b : List Int) : (T4 u a b).sync = T5 u a b := rfl
theorem up_no {t u : St} {l : List Chg} : (if (UP t u l).down = true then (4 : Int) else 0) = 0 := rfl
theorem T2_no {b : List Int} : (if (T2 t u l a b).down = true then (4 : Int) else 0) = 0 := rfl
theorem T4_no {b : List Int} : (if (T4 u a b).down = true then (4 : Int) else 0) = 0 := rfl
theorem m1 (h : a = 0 ∨ a = 1) : mayE (UP t u l) a = 0 := mayUP h
theorem m2 (h : a = 0 ∨ a = 1) : mayE (T1 t u l a) a = 0 := mayUP h
theorem m4 (h : a = 0 ∨ a = 1) (b : List Int) : mayE (T3 u a b) a = 0 := mayUP h
theorem Ok.t1 (h : Ok M (UP t u l)) (ha : a = 0 ∨ a = 1) : Ok (M + 1) (T1 t u l a) := PWal.t1 ha ▸ (h.change (1, a, []) ⟨.inr (.inl rfl), ha⟩).mono (by simp)
theorem Ok.t2 (h : Ok M (UP t u l)) (ha : a = 0 ∨ a = 1) (b : List Int) : Ok (M + b.length + 2) (T2 t u l a b) := PWal.t2 ha b ▸ ((h.t1 ha).change (0, a, b) ⟨.inl rfl, ha⟩).mono (by show M + 1 + b.length + 1 ≤ _; omega)
theorem Ok.t3 (h : Ok M (UP t u l)) (ha : a = 0 ∨ a = 1) (b : List Int) : Ok (M + b.length + 2) (T3 u a b) := PWal.t3 b ▸ (h.t2 ha b).sync
theorem Ok.t4 (h : Ok M (UP t u l)) (ha : a = 0 ∨ a = 1) (b : List Int) : Ok (M + b.length + 3) (T4 u a b) := PWal.t4 ha b ▸ ((h.t3 ha b).change (2, a, []) ⟨.inr (.inr rfl), ha⟩).mono (by simp)
theorem Ok.t5 (h : Ok M (UP t u l)) (ha : a = 0 ∨ a = 1) (b : List Int) : Ok (M + b.length + 3) (T5 u a b) := PWal.t5 b ▸ (h.t4 ha b).sync
set_option maxHeartbeats 8000000 in
set_option maxRecDepth 100000 in
theorem steps_calls {A : Option Addr} {c : Nat} {bs : List Int} (w : World) (hf : w.heap[gf]? = some (.cells #[.func (.func 41) #[] #[.pointer (some ⟨g2, 0, none⟩), .pointer (some ⟨g5, 0, none⟩)], .func (.func 43) #[] #[.pointer (some ⟨g2, 0, none⟩), .pointer (some ⟨g5, 0, none⟩), .pointer (some ⟨g3, 0, none⟩)], .func (.func 33) #[.pointer (some ⟨p, 0, none⟩)] #[], .func (.func 44) #[] #[.pointer (some ⟨g2, 0, none⟩), .pointer (some ⟨g5, 0, none⟩)], .func (.func 33) #[.pointer (some ⟨p, 0, none⟩)] #[]] 51 (0, 0))) (hg2 : w.heap[g2]? = some (.cells #[.pointer (some ⟨q, 0, none⟩)] 27 (0, 0))) (hq : w.heap[q]? = some (.cells #[.pointer (some ⟨p, 0, none⟩), .int .i64 front, .int .i64 size] 60 (0, 0))) (hg5 : w.heap[g5]? = some (.cells #[.int .i64 a] 3 (0, 0))) (hg3 : w.heap[g3]? = some (.cells #[.slice A bs.length c] 28 (0, 0)))
    (hR : Rep B w p (UP t u l)) (hO : Ok M (UP t u l)) (hN : M + bs.length + 3 ≤ 500000000) (ha : a = 0 ∨ a = 1) (hS : BS B0 w (.slice A bs.length c) bs) (hl : bs.length ≤ 100000000) :
    Calls Try.prog 40 #[.slice (some ⟨gf, 0, none⟩) 5 5] w fun e w' => e = .returned (.int .i64 0) ∧ Rep B w' p (T5 u a bs) ∧ Below B w w' ∧ KT w w' := by
  have F0 := Aside0.mk hf
  have G20 := Aside0.mk hg2
  have GQ0 := Aside0.mk hq
  have G50 := Aside0.mk hg5
  have G30 := Aside0.mk hg3
  have HR0 := Aside0.mk hR
  have HS0 := Aside0.mk hS
  have HL := Aside0.mk hl
  have O1 := Aside0.mk (hO.t1 ha)
  have O2 := Aside0.mk (hO.t2 ha bs)
  have O3 := Aside0.mk (hO.t3 ha bs)
  have O4 := Aside0.mk (hO.t4 ha bs)
  have O0 := Aside0.mk hO
  have N0 := Aside0.mk (show M ≤ 500000000 by omega)
  have N1 := Aside0.mk (show M + 1 ≤ 500000000 by omega)
  have N2 := Aside0.mk (show M + bs.length + 2 ≤ 500000000 by omega)
  have N4 := Aside0.mk hN
  have HA := Aside0.mk ha
  have E1 := Aside0.mk (t1 (t := t) (u := u) (l := l) ha)
  have E2 := Aside0.mk (t2 (t := t) (u := u) (l := l) ha bs)
  have E4 := Aside0.mk (t4 (u := u) ha bs)
  have M1 := Aside0.mk (m1 (t := t) (u := u) (l := l) ha)
  have M2 := Aside0.mk (m2 (t := t) (u := u) (l := l) ha)
  have M4 := Aside0.mk (m4 (u := u) ha bs)
  have HB0 := Aside0.mk (Below.refl B w)
  have HK0 := Aside0.mk (KT.refl w)
  clear hf hg2 hq hg5 hg3 hR hO hN ha hS hl
  obtain ⟨w0, hw0⟩ : ∃ w0, w0 = w := ⟨_, rfl⟩
  rw [← hw0] at F0 G20 GQ0 G50 G30 HR0 HS0
  have HB0' := Aside0.mk (show Below B w w0 from hw0 ▸ HB0.out)
  have HK0' := Aside0.mk (show KT w w0 from hw0 ▸ HK0.out)
  clear HB0 HK0
  have HB0 := HB0'
  have HK0 := HK0'
  clear HB0' HK0'
  rw [show Calls Try.prog 40 #[.slice (some ⟨gf, 0, none⟩) 5 5] w = Calls Try.prog 40 #[.slice (some ⟨gf, 0, none⟩) 5 5] w0 from by rw [hw0]]
  clear hw0
  have y0 : w0.cell? ⟨gf, 0, none⟩ = some (.func (.func 41) #[] #[.pointer (some ⟨g2, 0, none⟩), .pointer (some ⟨g5, 0, none⟩)]) := (blk_cell F0.out 0).trans rfl
  have y1 : w0.cell? ⟨gf, 1, none⟩ = some (.func (.func 43) #[] #[.pointer (some ⟨g2, 0, none⟩), .pointer (some ⟨g5, 0, none⟩), .pointer (some ⟨g3, 0, none⟩)]) := (blk_cell F0.out 1).trans rfl
  have y2 : w0.cell? ⟨gf, 2, none⟩ = some (.func (.func 33) #[.pointer (some ⟨p, 0, none⟩)] #[]) := (blk_cell F0.out 2).trans rfl
  have y3 : w0.cell? ⟨gf, 3, none⟩ = some (.func (.func 44) #[] #[.pointer (some ⟨g2, 0, none⟩), .pointer (some ⟨g5, 0, none⟩)]) := (blk_cell F0.out 3).trans rfl
  have y4 : w0.cell? ⟨gf, 4, none⟩ = some (.func (.func 33) #[.pointer (some ⟨p, 0, none⟩)] #[]) := (blk_cell F0.out 4).trans rfl
  go_enter Try.func40, Try.ntmps40
  go_wp2
  refine wp_loop_rounds 6 ?_
  iterate 6
    rw [rounds_succ]
    go_wp2_with (first
      | (go_at_call 41; (with_reducible refine (clo41_calls (s' := T1 t u l a) w0 G20.out GQ0.out G50.out HR0.out O0.out N0.out M1.out E1.out).mono ?_); rintro e w1 ⟨rfl, hr, hb, hk⟩; have HR1 := Aside0.mk hr; have HB1 := Aside0.mk (Below.trans HB0.out hb); have HK1 := Aside0.mk (KT.trans HK0.out hk); have F1 := Aside0.mk (hk 51 (by decide) (by decide) _ _ F0.out); have G21 := Aside0.mk (hk 27 (by decide) (by decide) _ _ G20.out); have G31 := Aside0.mk (hk 28 (by decide) (by decide) _ _ G30.out); have G51 := Aside0.mk (hk 3 (by decide) (by decide) _ _ G50.out); have GQ1 := Aside0.mk (hk 60 (by decide) (by decide) _ _ GQ0.out); have HS1 := Aside0.mk (hk.bs HS0.out); have y0 : w1.cell? ⟨gf, 0, none⟩ = some (.func (.func 41) #[] #[.pointer (some ⟨g2, 0, none⟩), .pointer (some ⟨g5, 0, none⟩)]) := (blk_cell F1.out 0).trans rfl; have y1 : w1.cell? ⟨gf, 1, none⟩ = some (.func (.func 43) #[] #[.pointer (some ⟨g2, 0, none⟩), .pointer (some ⟨g5, 0, none⟩), .pointer (some ⟨g3, 0, none⟩)]) := (blk_cell F1.out 1).trans rfl; have y2 : w1.cell? ⟨gf, 2, none⟩ = some (.func (.func 33) #[.pointer (some ⟨p, 0, none⟩)] #[]) := (blk_cell F1.out 2).trans rfl; have y3 : w1.cell? ⟨gf, 3, none⟩ = some (.func (.func 44) #[] #[.pointer (some ⟨g2, 0, none⟩), .pointer (some ⟨g5, 0, none⟩)]) := (blk_cell F1.out 3).trans rfl; have y4 : w1.cell? ⟨gf, 4, none⟩ = some (.func (.func 33) #[.pointer (some ⟨p, 0, none⟩)] #[]) := (blk_cell F1.out 4).trans rfl; clear hr hb hk)
      | (go_at_call 43; (with_reducible refine (clo43_calls (s' := T2 t u l a bs) w1 G21.out GQ1.out G51.out G31.out HR1.out O1.out N1.out HS1.out.len.2.2 HS1.out.len.2.1 HL.out M2.out E2.out).mono ?_); rintro e w2 ⟨rfl, hr, hb, hk⟩; have HR2 := Aside0.mk hr; have HB2 := Aside0.mk (Below.trans HB1.out hb); have HK2 := Aside0.mk (KT.trans HK1.out hk); have F2 := Aside0.mk (hk 51 (by decide) (by decide) _ _ F1.out); have G22 := Aside0.mk (hk 27 (by decide) (by decide) _ _ G21.out); have G32 := Aside0.mk (hk 28 (by decide) (by decide) _ _ G31.out); have G52 := Aside0.mk (hk 3 (by decide) (by decide) _ _ G51.out); have GQ2 := Aside0.mk (hk 60 (by decide) (by decide) _ _ GQ1.out); have HS2 := Aside0.mk (hk.bs HS1.out); have y0 : w2.cell? ⟨gf, 0, none⟩ = some (.func (.func 41) #[] #[.pointer (some ⟨g2, 0, none⟩), .pointer (some ⟨g5, 0, none⟩)]) := (blk_cell F2.out 0).trans rfl; have y1 : w2.cell? ⟨gf, 1, none⟩ = some (.func (.func 43) #[] #[.pointer (some ⟨g2, 0, none⟩), .pointer (some ⟨g5, 0, none⟩), .pointer (some ⟨g3, 0, none⟩)]) := (blk_cell F2.out 1).trans rfl; have y2 : w2.cell? ⟨gf, 2, none⟩ = some (.func (.func 33) #[.pointer (some ⟨p, 0, none⟩)] #[]) := (blk_cell F2.out 2).trans rfl; have y3 : w2.cell? ⟨gf, 3, none⟩ = some (.func (.func 44) #[] #[.pointer (some ⟨g2, 0, none⟩), .pointer (some ⟨g5, 0, none⟩)]) := (blk_cell F2.out 3).trans rfl; have y4 : w2.cell? ⟨gf, 4, none⟩ = some (.func (.func 33) #[.pointer (some ⟨p, 0, none⟩)] #[]) := (blk_cell F2.out 4).trans rfl; clear hr hb hk)
      | (go_at_call 33; (with_reducible refine (Sync_T (s' := T3 u a bs) w2 HR2.out O2.out N2.out T2_no (t3 bs)).mono ?_); rintro e w3 ⟨rfl, hr, hb, hk⟩; have HR3 := Aside0.mk hr; have HB3 := Aside0.mk (Below.trans HB2.out hb); have HK3 := Aside0.mk (KT.trans HK2.out hk); have F3 := Aside0.mk (hk 51 (by decide) (by decide) _ _ F2.out); have G23 := Aside0.mk (hk 27 (by decide) (by decide) _ _ G22.out); have G33 := Aside0.mk (hk 28 (by decide) (by decide) _ _ G32.out); have G53 := Aside0.mk (hk 3 (by decide) (by decide) _ _ G52.out); have GQ3 := Aside0.mk (hk 60 (by decide) (by decide) _ _ GQ2.out); have HS3 := Aside0.mk (hk.bs HS2.out); have y0 : w3.cell? ⟨gf, 0, none⟩ = some (.func (.func 41) #[] #[.pointer (some ⟨g2, 0, none⟩), .pointer (some ⟨g5, 0, none⟩)]) := (blk_cell F3.out 0).trans rfl; have y1 : w3.cell? ⟨gf, 1, none⟩ = some (.func (.func 43) #[] #[.pointer (some ⟨g2, 0, none⟩), .pointer (some ⟨g5, 0, none⟩), .pointer (some ⟨g3, 0, none⟩)]) := (blk_cell F3.out 1).trans rfl; have y2 : w3.cell? ⟨gf, 2, none⟩ = some (.func (.func 33) #[.pointer (some ⟨p, 0, none⟩)] #[]) := (blk_cell F3.out 2).trans rfl; have y3 : w3.cell? ⟨gf, 3, none⟩ = some (.func (.func 44) #[] #[.pointer (some ⟨g2, 0, none⟩), .pointer (some ⟨g5, 0, none⟩)]) := (blk_cell F3.out 3).trans rfl; have y4 : w3.cell? ⟨gf, 4, none⟩ = some (.func (.func 33) #[.pointer (some ⟨p, 0, none⟩)] #[]) := (blk_cell F3.out 4).trans rfl; clear hr hb hk)
      | (go_at_call 44; (with_reducible refine (clo44_calls (s' := T4 u a bs) w3 G23.out GQ3.out G53.out HR3.out O3.out N2.out M4.out E4.out).mono ?_); rintro e w4 ⟨rfl, hr, hb, hk⟩; have HR4 := Aside0.mk hr; have HB4 := Aside0.mk (Below.trans HB3.out hb); have HK4 := Aside0.mk (KT.trans HK3.out hk); have F4 := Aside0.mk (hk 51 (by decide) (by decide) _ _ F3.out); have G24 := Aside0.mk (hk 27 (by decide) (by decide) _ _ G23.out); have G34 := Aside0.mk (hk 28 (by decide) (by decide) _ _ G33.out); have G54 := Aside0.mk (hk 3 (by decide) (by decide) _ _ G53.out); have GQ4 := Aside0.mk (hk 60 (by decide) (by decide) _ _ GQ3.out); have HS4 := Aside0.mk (hk.bs HS3.out); have y0 : w4.cell? ⟨gf, 0, none⟩ = some (.func (.func 41) #[] #[.pointer (some ⟨g2, 0, none⟩), .pointer (some ⟨g5, 0, none⟩)]) := (blk_cell F4.out 0).trans rfl; have y1 : w4.cell? ⟨gf, 1, none⟩ = some (.func (.func 43) #[] #[.pointer (some ⟨g2, 0, none⟩), .pointer (some ⟨g5, 0, none⟩), .pointer (some ⟨g3, 0, none⟩)]) := (blk_cell F4.out 1).trans rfl; have y2 : w4.cell? ⟨gf, 2, none⟩ = some (.func (.func 33) #[.pointer (some ⟨p, 0, none⟩)] #[]) := (blk_cell F4.out 2).trans rfl; have y3 : w4.cell? ⟨gf, 3, none⟩ = some (.func (.func 44) #[] #[.pointer (some ⟨g2, 0, none⟩), .pointer (some ⟨g5, 0, none⟩)]) := (blk_cell F4.out 3).trans rfl; have y4 : w4.cell? ⟨gf, 4, none⟩ = some (.func (.func 33) #[.pointer (some ⟨p, 0, none⟩)] #[]) := (blk_cell F4.out 4).trans rfl; clear hr hb hk)
      | (go_at_call 33; (with_reducible refine (Sync_T (s' := T5 u a bs) w4 HR4.out O4.out N4.out T4_no (t5 bs)).mono ?_); rintro e w5 ⟨rfl, hr, hb, hk⟩; have HR5 := Aside0.mk hr; have HB5 := Aside0.mk (Below.trans HB4.out hb); have HK5 := Aside0.mk (KT.trans HK4.out hk); have F5 := Aside0.mk (hk 51 (by decide) (by decide) _ _ F4.out); have G25 := Aside0.mk (hk 27 (by decide) (by decide) _ _ G24.out); have G35 := Aside0.mk (hk 28 (by decide) (by decide) _ _ G34.out); have G55 := Aside0.mk (hk 3 (by decide) (by decide) _ _ G54.out); have GQ5 := Aside0.mk (hk 60 (by decide) (by decide) _ _ GQ4.out); have HS5 := Aside0.mk (hk.bs HS4.out); have y0 : w5.cell? ⟨gf, 0, none⟩ = some (.func (.func 41) #[] #[.pointer (some ⟨g2, 0, none⟩), .pointer (some ⟨g5, 0, none⟩)]) := (blk_cell F5.out 0).trans rfl; have y1 : w5.cell? ⟨gf, 1, none⟩ = some (.func (.func 43) #[] #[.pointer (some ⟨g2, 0, none⟩), .pointer (some ⟨g5, 0, none⟩), .pointer (some ⟨g3, 0, none⟩)]) := (blk_cell F5.out 1).trans rfl; have y2 : w5.cell? ⟨gf, 2, none⟩ = some (.func (.func 33) #[.pointer (some ⟨p, 0, none⟩)] #[]) := (blk_cell F5.out 2).trans rfl; have y3 : w5.cell? ⟨gf, 3, none⟩ = some (.func (.func 44) #[] #[.pointer (some ⟨g2, 0, none⟩), .pointer (some ⟨g5, 0, none⟩)]) := (blk_cell F5.out 3).trans rfl; have y4 : w5.cell? ⟨gf, 4, none⟩ = some (.func (.func 33) #[.pointer (some ⟨p, 0, none⟩)] #[]) := (blk_cell F5.out 4).trans rfl; clear hr hb hk)
      | fail)
  go_ret
  exact ⟨rfl, HR5.out, HB5.out, HK5.out⟩
end Go.Proofs.Ytdbkedipfpepbaa.PWal
