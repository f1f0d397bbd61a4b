/- The walk of the disk laws' awake. -/
import Derived.Test.YtpagajgpcmonkaaDiskClone
import Derived.Lib.SlBytesConst
namespace Go.Proofs.Ytpagajgpcmonkaa.PDisk
open Go.RowKit Go.Proofs.YtpagajgpcmonkaaW.PrintWords Go.Proofs.YtpagajgpcmonkaaW.PrintLast Go.Proofs.YtpagajgpcmonkaaW.PrintMore
set_option linter.unusedVariables false
set_option linter.unusedSimpArgs false
/-- bytes at the front of a block, read -/
theorem C_of_block {W : World} {g : Nat} {cs : Array Value} {t : Nat} {fr : Nat × Nat} {bs : List Int} (h : W.heap[g]? = some (.cells cs t fr)) (hm : bs.length ≤ 9223372036854775807) (hc : ∀ (j : Nat) (b : Int), bs[j]? = some b → cs[j]? = some (.int .u8 b)) : Kd.C (Kd.int .u8) W (some ⟨g, 0, none⟩) bs.length bs := by
  refine ⟨rfl, hm, fun hn => ⟨_, rfl, fun j p hj => ⟨[.int .u8 p], rfl, rfl, fun i u hu => ?_⟩⟩⟩
  match i, hu with
  | 0, hu => rw [add_plain, show (Kd.int IntKind.u8).sz = 1 from rfl, cell_of_row W g _ _ t fr h, show j * 1 + 0 = j by omega, hc j p hj]; simpa using hu
  | i + 1, hu => simp at hu
theorem two_bytes (x y : Int) : ∀ (j : Nat) (b : Int), [x, y][j]? = some b → #[Value.int .u8 x, Value.int .u8 y][j]? = some (.int .u8 b)
  | 0, b, h => by simpa using h
  | 1, b, h => by simpa using h
  | j + 2, b, h => by simp at h
/-- what another disk's act writes isn't this one's -/
theorem Rep.other {B p q : Nat} {W W' : World} {s : AD} {cs : Array Value} (h : Rep B W q s) (hg : W.grownBy W' (some p)) (hp : W.heap[p]? = some (.cells cs 58 (0, 0))) (hne : q ≠ p) : Rep B W' q s := by
  obtain ⟨v0, v1, u0, u1, lo, hB, hq, h0, h1, k0, k1, hl⟩ := h
  have k5 := Keeps.grown (t := 5) hg hp (by decide)
  exact ⟨v0, v1, u0, u1, lo, hB, (hg.block q (blk_lt hq) (fun he => hne (Option.some.inj he))).trans hq, h0.keep k5, h1.keep k5, k0.keep k5, k1.keep k5, hl.keep k5 (Keeps.grown (t := 62) hg hp (by decide))⟩
theorem Rep.blk {B p : Nat} {W : World} {s : AD} (h : Rep B W p s) : ∃ cs, W.heap[p]? = some (.cells cs 58 (0, 0)) := by
  obtain ⟨v0, v1, u0, u1, lo, hB, hp, _⟩ := h
  exact ⟨_, hp⟩
variable {B p N : Nat} {s s' : AD} {E : Int}
theorem Append_E (w : World) (hR : Rep B w p s) (hO : Ok N s) (hN : N ≤ 500000000) (a : Int) {A : Option Addr} {c : Nat} {bs : List Int} (hb : Kd.C (Kd.int .u8) w A bs.length bs) (hc : bs.length ≤ c) (hl : bs.length ≤ 100000000) (hE : mayE s a = E) (hs : s.change (0, a, bs) = s') :
    Calls Try.prog 10 #[.pointer (some ⟨p, 0, none⟩), .int .i64 a, .slice A bs.length c] w fun e w' => e = .returned (.int .i64 E) ∧ Rep B w' p s' ∧ Below B w w' := hE ▸ hs ▸ Append_calls w hR hO hN a hb hc hl
theorem Wipe_E (w : World) (hR : Rep B w p s) (hO : Ok N s) (hN : N ≤ 500000000) (a : Int) (hE : mayE s a = E) (hs : s.change (1, a, []) = s') :
    Calls Try.prog 26 #[.pointer (some ⟨p, 0, none⟩), .int .i64 a] w fun e w' => e = .returned (.int .i64 E) ∧ Rep B w' p s' ∧ Below B w w' := hE ▸ hs ▸ Wipe_calls w hR hO hN a
theorem Front_E (w : World) (hR : Rep B w p s) (hO : Ok N s) (hN : N ≤ 500000000) (a : Int) (hE : mayE s a = E) (hs : s.change (2, a, []) = s') :
    Calls Try.prog 25 #[.pointer (some ⟨p, 0, none⟩), .int .i64 a] w fun e w' => e = .returned (.int .i64 E) ∧ Rep B w' p s' ∧ Below B w w' := hE ▸ hs ▸ Front_calls w hR hO hN a
theorem Sync_E (w : World) (hR : Rep B w p s) (hO : Ok N s) (hN : N ≤ 500000000) (hE : (if s.down = true then (4 : Int) else 0) = E) (hs : s.sync = s') :
    Calls Try.prog 19 #[.pointer (some ⟨p, 0, none⟩)] w fun e w' => e = .returned (.int .i64 E) ∧ Rep B w' p s' ∧ Below B w w' := hE ▸ hs ▸ Sync_calls w hR hO hN
theorem Crash_E (w : World) (hR : Rep B w p s) (hO : Ok N s) (hN : N ≤ 500000000) (keep torn : Int) (hs : s.crash keep torn = s') :
    Calls Try.prog 12 #[.pointer (some ⟨p, 0, none⟩), .int .i64 keep, .int .i64 torn] w fun e w' => e = .returned (.tuple #[]) ∧ Rep B w' p s' ∧ Below B w w' ∧ w.grownBy w' (some p) := hs ▸ Crash_calls w hR hO hN keep torn
theorem Read_E (w : World) (hR : Rep B w p s) (hO : Ok N s) (hN : N ≤ 500000000) (a : Int) {bs : List Int} (hE : mayE s a = E) (hs : readB s a = bs) :
    Calls Try.prog 11 #[.pointer (some ⟨p, 0, none⟩), .int .i64 a] w fun e w' => ∃ A c, e = .returned (.tuple #[.slice A bs.length c, .int .i64 E]) ∧ BS w.heap.size w' (.slice A bs.length c) bs ∧ Below w.heap.size w w' := hE ▸ hs ▸ Read_calls w hR hO hN a
theorem First_E (w : World) (hR : Rep B w p s) {F : Int} (hF : (if s.down = true then 0 else s.now.2.2) = F) (hE : (if s.down = true then (4 : Int) else 0) = E) :
    Calls Try.prog 21 #[.pointer (some ⟨p, 0, none⟩)] w fun e w' => e = .returned (.tuple #[.int .i64 F, .int .i64 E]) ∧ w' = w := hF ▸ hE ▸ First_calls w hR
def S1 : AD := ⟨([], [], 0), ([97, 98], [], 0), [(0, 0, [97, 98])], -1, false⟩
def S2 : AD := ⟨([97, 98], [], 0), ([97, 98], [], 0), [], -1, false⟩
def S3 : AD := ⟨([97, 98], [], 0), ([97, 98, 99, 100], [], 0), [(0, 0, [99, 100])], -1, false⟩
def S4 : AD := ⟨([97, 98], [], 0), ([97, 98, 99, 100], [], 1), [(0, 0, [99, 100]), (2, 1, [])], -1, false⟩
def S5 : AD := ⟨([97, 98, 99, 100], [], 0), ([97, 98, 99, 100], [], 0), [], -1, false⟩
def X5 : AD := ⟨([97, 98, 99], [], 0), ([97, 98, 99], [], 0), [], -1, false⟩
theorem e1 : new.change (0, 0, [97, 98]) = S1 := by kernel_rfl
theorem e2 : S1.sync = S2 := by kernel_rfl
theorem e3 : S2.change (0, 0, [99, 100]) = S3 := by kernel_rfl
theorem e4 : S3.change (2, 1, []) = S4 := by kernel_rfl
theorem e5 : S4.crash 1 0 = S5 := by kernel_rfl
theorem e6 : S4.crash 0 1 = X5 := by kernel_rfl
theorem O1 : Ok 3 S1 := e1 ▸ Ok.new.change (0, 0, [97, 98]) ⟨.inl rfl, .inl rfl⟩
theorem O2 : Ok 3 S2 := e2 ▸ O1.sync
theorem O3 : Ok 6 S3 := e3 ▸ O2.change (0, 0, [99, 100]) ⟨.inl rfl, .inl rfl⟩
theorem O4 : Ok 7 S4 := e4 ▸ O3.change (2, 1, []) ⟨.inr (.inr rfl), .inr rfl⟩
theorem O5 : Ok 7 S5 := e5 ▸ O4.crash 1 0
theorem O6 : Ok 7 X5 := e6 ▸ O4.crash 0 1
set_option maxHeartbeats 8000000 in
set_option maxRecDepth 100000 in
theorem awake_calls (w : World) : Calls Try.prog 8 #[] w fun e w' => e = .returned (.bool true) ∧ Below w.heap.size w w' := by
  have N3 : (3 : Nat) ≤ 500000000 := by decide
  go_enter Try.func8, Try.ntmps8
  go_wp2_with (first
    | (go_at_call 9; (with_reducible refine (new_calls w).mono ?_); rintro e w1 ⟨rfl, hR, hb⟩; have HR1 := Aside0.mk hR; have HB := Aside0.mk hb; have hcb := Go.Lib.run_convert_bytes_const (P := Try.prog) w1 22 5 #[.int .u8 97, .int .u8 98] 2 2 Try.underlying22 Try.underlying5; clear hR hb)
    | fail)
  clear hcb
  have LIT := Aside0.mk (C_of_block (bs := [97, 98]) (heap_alloc_new w1 (.cells #[.int .u8 97, .int .u8 98] 5 (2, 3))) (by simp) (two_bytes 97 98))
  have n1 := Aside0.mk (HR1.out.below (below_al w1 (.cells #[.int .u8 97, .int .u8 98] 5 (2, 3))))
  have n2 := Aside0.mk (below_step HB.out (below_al w1 (.cells #[.int .u8 97, .int .u8 98] 5 (2, 3))))
  clear HR1 HB
  have HR1 := n1
  have HB := n2
  clear n1 n2
  generalize w1.alloc (.cells #[.int .u8 97, .int .u8 98] 5 (2, 3)) = w2 at LIT HR1 HB ⊢
  generalize w1.heap.size = gl at LIT ⊢
  refine (Append_E (bs := [97, 98]) w2 HR1.out Ok.new (by decide) 0 LIT.out (by simp) (by simp) (E := 0) rfl e1).mono ?_
  rintro e w3 ⟨rfl, hR, hb⟩
  have HR3 := Aside0.mk hR
  have HB3 := Aside0.mk (HB.out.trans hb)
  clear hR hb HR1 HB LIT
  go_wp2_with (first
    | (go_at_call 19; (with_reducible refine (Sync_E w3 HR3.out O1 (by decide) (E := 0) rfl e2).mono ?_); rintro e w4 ⟨rfl, hR, hb⟩; have HR4 := Aside0.mk hR; have HB4 := Aside0.mk (HB3.out.trans hb); have hcb := Go.Lib.run_convert_bytes_const (P := Try.prog) w4 22 5 #[.int .u8 99, .int .u8 100] 2 2 Try.underlying22 Try.underlying5; clear hR hb HR3 HB3)
    | fail)
  clear hcb
  have LIT := Aside0.mk (C_of_block (bs := [99, 100]) (heap_alloc_new w4 (.cells #[.int .u8 99, .int .u8 100] 5 (2, 3))) (by simp) (two_bytes 99 100))
  have n1 := Aside0.mk (HR4.out.below (below_al w4 (.cells #[.int .u8 99, .int .u8 100] 5 (2, 3))))
  have n2 := Aside0.mk (below_step HB4.out (below_al w4 (.cells #[.int .u8 99, .int .u8 100] 5 (2, 3))))
  clear HR4 HB4
  have HR4 := n1
  have HB4 := n2
  clear n1 n2
  generalize w4.alloc (.cells #[.int .u8 99, .int .u8 100] 5 (2, 3)) = w5 at LIT HR4 HB4 ⊢
  generalize w4.heap.size = gl at LIT ⊢
  refine (Append_E (bs := [99, 100]) w5 HR4.out O2 (by decide) 0 LIT.out (by simp) (by simp) (E := 0) rfl e3).mono ?_
  rintro e w6 ⟨rfl, hR, hb⟩
  have HR6 := Aside0.mk hR
  have HB6 := Aside0.mk (HB4.out.trans hb)
  clear hR hb HR4 HB4 LIT
  go_wp2_with (first
    | (go_at_call 25; (with_reducible refine (Front_E w6 HR6.out O3 (by decide) 1 (E := 0) rfl e4).mono ?_); rintro e w7 ⟨rfl, hR, hb⟩; have HR7 := Aside0.mk hR; have HB7 := Aside0.mk (HB6.out.trans hb); clear hR hb HR6 HB6)
    | (go_at_call 24; (with_reducible refine (Clone_calls w7 HR7.out O4 (by decide)).mono ?_); rintro e w8 ⟨q, rfl, hX, hb⟩; have HX8 := Aside0.mk hX; have HR8 := Aside0.mk (HR7.out.below hb); have HB8 := Aside0.mk (below_step HB7.out hb); have HXB := Aside0.mk (show w.heap.size ≤ w7.heap.size from HB7.out.size); have HQ := Aside0.mk (show q ≠ w.heap.size by
        have h1 := HR7.out.lt
        obtain ⟨_, _, _, _, _, h2, _⟩ := id hX
        omega); clear hX hb HR7 HB7)
    | fail)
  go_wp2_with (first
    | (go_at_call 12; (with_reducible refine (Crash_E w8 HR8.out O4 (by decide) 1 0 e5).mono ?_); rintro e w9 ⟨rfl, hR, hb, hg⟩; have HR9 := Aside0.mk hR; have HX9 := Aside0.mk (show Rep w7.heap.size w9 q S4 from by obtain ⟨cs, hc⟩ := HR8.out.blk; exact HX8.out.other hg hc HQ.out); have HB9 := Aside0.mk (HB8.out.trans hb); clear hR hb hg HR8 HB8 HX8)
    | (go_at_call 12; (with_reducible refine (Crash_E w9 HX9.out O4 (by decide) 0 1 e6).mono ?_); rintro e w10 ⟨rfl, hX, hb, hg⟩; have HX10 := Aside0.mk hX; have HR10 := Aside0.mk (show Rep w.heap.size w10 w.heap.size S5 from by obtain ⟨cs, hc⟩ := HX9.out.blk; exact HR9.out.other hg hc (fun h => HQ.out h.symm)); have HB10 := Aside0.mk (HB9.out.trans (hb.mono (by have := HB9.out.size; have := HXB.out; omega))); clear hX hb hg HR9 HB9 HX9)
    | (go_at_call 11; (with_reducible refine (Read_E w10 HR10.out O5 (by decide) 0 (bs := [97, 98, 99, 100]) (E := 0) rfl rfl).mono ?_); rintro e w11 ⟨A1, c1, rfl, hbs, hb⟩; have HR11 := Aside0.mk (HR10.out.below hb); have HX11 := Aside0.mk (HX10.out.below hb); have HB11 := Aside0.mk (below_step HB10.out hb); have HS11 := Aside0.mk hbs; clear hbs hb HR10 HX10 HB10)
    | (go_at_call 11; (with_reducible refine (Read_E w11 HX11.out O6 (by decide) 0 (bs := [97, 98, 99]) (E := 0) rfl rfl).mono ?_); rintro e w12 ⟨A2, c2, rfl, hbs, hb⟩; have HR12 := Aside0.mk (HR11.out.below hb); have HB12 := Aside0.mk (below_step HB11.out hb); have HS12 := Aside0.mk (HS11.out.keep (Keeps.below hb)); have HT12 := Aside0.mk hbs; clear hbs hb HR11 HX11 HB11 HS11)
    | (go_at_call 21; (with_reducible refine (First_E w12 HR12.out (F := 0) (E := 0) rfl rfl).mono ?_); rintro e w13 ⟨rfl, rfl⟩; obtain ⟨A1', c1', e1', _, hC1⟩ := HS12.out.reads; obtain ⟨A2', c2', e2', _, hC2⟩ := HT12.out.reads; injection e1' with e11 e12 e13; injection e2' with e21 e22 e23; subst e11; subst e21; have hcv1 := Kd.C_string (P := Try.prog) (c := c1) (dst := 9) Try.underlying22 Try.underlying5 Try.underlying9 (show (Kd.int .u8).C _ A1 4 [97, 98, 99, 100] from hC1); have hcv2 := Kd.C_string (P := Try.prog) (c := c2) (dst := 9) Try.underlying22 Try.underlying5 Try.underlying9 (show (Kd.int .u8).C _ A2 3 [97, 98, 99] from hC2); rw [show strOfNums [97, 98, 99, 100] = { data := #[97, 98, 99, 100] } by rfl] at hcv1; rw [show strOfNums [97, 98, 99] = { data := #[97, 98, 99] } by rfl] at hcv2; clear hC1 hC2 e12 e13 e22 e23)
    | (go_at_call 26; (with_reducible refine (Wipe_E _ HR12.out O5 (by decide) 2 (E := 1) (s' := S5) rfl rfl).mono ?_); rintro e w14 ⟨rfl, hR, hb⟩; have HB14 := Aside0.mk (HB12.out.trans hb))
    | fail)
  go_ret
  exact ⟨rfl, HB14.out⟩
end Go.Proofs.Ytpagajgpcmonkaa.PDisk
