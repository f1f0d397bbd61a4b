/- The walk of Opened. -/
import Derived.Test.YtdbkedipfpepbaaWalOpen
import Derived.Test.YtdbkedipfpepbaaFrameFew
namespace Go.Proofs.Ytdbkedipfpepbaa.PWal
open Go.RowKit Go.Proofs.YtdbkedipfpepbaaW.PrintWords Go.Proofs.YtdbkedipfpepbaaW.PrintLast Go.Proofs.YtdbkedipfpepbaaW.PrintMore Go.FrameMath
set_option linter.unusedVariables false
set_option linter.unusedSimpArgs false
theorem same8_f (r : List Int) (rs : List (List Int)) (x : Int) (hr : r.length ≤ 3000) (hs : ∀ y ∈ rs, y.length ≤ 3000) (hl : rs.length ≤ 100000) : lockgateref08_Same.f 200000 r rs r rs x = some true := by
  unfold lockgateref08_Same.f
  rw [FramePure.sameAll_f [r] 3000 (by decide) (by simp) (fun y hy => by rw [List.mem_singleton.1 hy]; exact hr) 200000 (by simp), Option.bind_some, if_pos rfl, FramePure.sameAll_f rs 3000 (by decide) (by omega) hs 200000 (by omega), Option.bind_some]
theorem okx {W : World} {A2 : Option Addr} {n : Nat} {l : List Int} (h : Kd.C (Kd.int .u8) W A2 n l) : Kd.F (Kd.int .u8) W (fun k => k < W.heap.size) A2 n l := Kd.C_F (Kd.heap_int _) h
variable {B p M : Nat} {t u : St} {l : List Chg} {front : Int}
set_option maxHeartbeats 8000000 in
set_option maxRecDepth 100000 in
theorem Opened_calls {r : List Int} {rs : List (List Int)} {Ap Ar : Option Addr} {cp cr : Nat} {x : Int} (w : World) (hR : Rep B w p (UP t u l)) (hO : Ok M (UP t u l)) (hN : M + (flat (r :: rs)).length + 3 ≤ 500000000) (hs : LS8 u front (r :: rs))
    (hP : ∀ W, Below B w W → KL w W → Kd.C (Kd.int .u8) W Ap r.length r) (hpc : r.length ≤ cp) (hQ : ∀ W, Below B w W → KL w W → Kd.C (Kd.slice 5 (Kd.int .u8)) W Ar rs.length rs) (hqc : rs.length ≤ cr) :
    Calls Try.prog 20 #[.pointer (some ⟨p, 0, none⟩), .agg #[.slice Ap r.length cp, .slice Ar rs.length cr, .int .i64 x]] w fun e w' => e = .returned (.bool true) ∧ ∃ v, Rep B w' p (UP v v []) ∧ LS8 v (1 - front) (r :: rs) ∧ Ok (M + (flat (r :: rs)).length + 3) (UP v v []) ∧ Below B w w' ∧ KL w w' := by
  have HR := Aside0.mk hR
  have HO := Aside0.mk hO
  have HN := Aside0.mk hN
  have HS := Aside0.mk hs
  have HP := Aside0.mk hP
  have HQ := Aside0.mk hQ
  have HPC := Aside0.mk hpc
  have HQC := Aside0.mk hqc
  have HSF := Aside0.mk (same8_f r rs x (hs.sm r (List.mem_cons_self ..)) (fun y hy => hs.sm y (List.mem_cons_of_mem _ hy)) (by have h1 := flat_len (r :: rs); have h2 := hs.le; simp only [List.length_cons] at h1; omega))
  clear hR hO hN hs hP hQ hpc hqc
  go_enter Try.func20, Try.ntmps20
  go_wp2_with (first
    | ((with_reducible refine gate_dst (N := 3) rfl ?_); refine box_event ?hg (N := 3) ?hd (cs := #[.slice Ap r.length cp, .slice Ar rs.length cr, .int .i64 x]) (t := 34) ?hr ?_; (case hd => rfl); (case hg => rfl); (case hr => first | (go_simp; done) | (go_simp; rfl)); intro g3 e3 w1 b3 hb; have B3 := Aside0.mk b3; have HB1 := Aside0.mk hb; have HR1 := Aside0.mk (HR.out.below hb); clear b3 hb e3)
    | (go_at_call 9; (with_reducible refine (Open_old w1 HR1.out HO.out HN.out HS.out).mono ?_); rintro e w2 ⟨q, gr, cap, A0, c0, rfl, hz, hv, hg, ho, hb, hk⟩; have HV2 := Aside0.mk hv; have HG2 := Aside0.mk hg; have HO2 := Aside0.mk ho; have HB2 := Aside0.mk (Below.trans (Below.mono HB1.out HR.out.base) hb); have HK2 := Aside0.mk (KL.trans (KT.below HB1.out).kl hk); have B32 := Aside0.mk (hk 34 (by decide) (by decide) (by decide) _ _ B3.out); have z0 : w2.cell? ⟨g3, 0, none⟩ = some (.slice Ap r.length cp) := (blk_cell B32.out 0).trans rfl; have z1 : w2.cell? ⟨g3, 1, none⟩ = some (.slice Ar rs.length cr) := (blk_cell B32.out 1).trans rfl; have z2 : w2.cell? ⟨g3, 2, none⟩ = some (.int .i64 x) := (blk_cell B32.out 2).trans rfl; obtain ⟨ad, A0', c0', ead, hz0, hlc, hCr⟩ := at_BB (Kd.S_reads' HV2.out).2.2 0 (by simp); cases ead; have hz0' : w2.cell? ⟨gr, 0, none⟩ = some (.slice A0' r.length c0') := hz0; rw [hz] at hz0'; cases hz0'; have HLC := Aside0.mk (show r.length ≤ c0 from hlc); have HCR := Aside0.mk (show Kd.C (Kd.int .u8) w2 A0 r.length r from hCr); have HCD := Aside0.mk (show Kd.C (Kd.slice 5 (Kd.int .u8)) w2 (if cap = 1 then some ⟨gr, 0, none⟩ else some ⟨gr, 1, none⟩) rs.length rs from Kd.C_drop (m := 1) (c := cap) (Kd.S_reads' HV2.out).2.2 (by simp) (Kd.S_reads' HV2.out).2.1); have HCC := Aside0.mk (show rs.length ≤ cap - 1 by have h1 := (Kd.S_reads' HV2.out).2.1; omega); clear hz hv hg ho hb hk hz0 hlc hCr; generalize (if cap = 1 then some (⟨gr, 0, none⟩ : Addr) else some ⟨gr, 1, none⟩) = AD at HCD ⊢)
    | (go_at_call 10; (with_reducible refine (lockgateref08_Same.calls 200000 (fun k => k < w2.heap.size) A0 c0 r AD (cap - 1) rs (fun k => k < w2.heap.size) Ap cp r Ar cr rs x true w2 (Kd.V_mk HLC.out (okx HCR.out)) HCD.out HCC.out (Kd.V_mk HPC.out (okx (HP.out w2 HB2.out HK2.out))) (HQ.out w2 HB2.out HK2.out) HQC.out HSF.out).mono ?_); rintro e w3 ⟨rfl, hb⟩)
    | fail)
  go_ret
  exact ⟨rfl, _, HG2.out.rep.below hb, HG2.out.st, HO2.out, Below.trans HB2.out (Below.mono hb HG2.out.rep.base), KL.trans HK2.out (KT.below hb).kl⟩
end Go.Proofs.Ytdbkedipfpepbaa.PWal
