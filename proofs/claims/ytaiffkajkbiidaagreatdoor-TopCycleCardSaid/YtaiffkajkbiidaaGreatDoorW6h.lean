/- BLAKE2b's Sum of 48 bytes, of at most one block, without a key. No condition but that bytes are below 256. -/
import Derived.Test.YtaiffkajkbiidaaGreatDoorW6g
namespace Go.Proofs.YtaiffkajkbiidaaGreatDoor
set_option linter.unusedSimpArgs false
set_option linter.unusedVariables false
set_option linter.unusedSectionVars false
set_option linter.unusedVariables false
open Go.RowKit
set_option maxRecDepth 100000 in
set_option maxHeartbeats 40000000 in
theorem blakeSum_c (b : List Nat) (a : Option Addr) (c : Nat) (hbl : b.length ≤ 128) (hbb : ∀ x ∈ b, x < 256) (hn : a = none → c = 0) (w : World) (hG : GlB w) (hS : Sl w a .u8 b) :
    Calls Tryz.prog 37 #[.int .i64 48, .slice none 0 0, .slice a b.length c] w fun e w' => ∃ a2 c2, e = .returned (.tuple #[.slice a2 48 c2, .int .i64 0]) ∧ Sl w' a2 .u8 (sumH bStartL b) ∧ 48 ≤ c2 ∧ Below w.heap.size w w' := by
  go_enter Tryz.func37, Tryz.ntmps37
  go_wp2_with fail
  refine (hnew_c w hG).mono ?_
  rintro e w1 ⟨g, rfl, hg, B1, hb1⟩
  have S1 := hS.below hb1
  go_wp2_with fail
  refine (hwrite_c g bStartL b 48 a c hbl hn w1 B1 S1).mono ?_
  rintro e w2 ⟨a2, c2, rfl, B2, S2, hc2⟩
  have hb2 := hc2.below hb1 hg hb1.size
  go_wp2_with fail
  refine (hsum_c g bStartL b a2 c2 bStartL_lt hbl hbb w2 (hG.below hb2) B2 S2).mono ?_
  rintro e w3 ⟨a3, c3, rfl, S3, hc3, hb3⟩
  have hbel := bCall hb2 hb3 hb2.size
  go_wp2_with fail
  refine bodyPost_ret (v := .tuple #[.slice a3 48 c3, .int .i64 0]) ?_ rfl ⟨_, _, rfl, S3, hc3, hbel⟩
  simp [results, Tryz.results37]
end Go.Proofs.YtaiffkajkbiidaaGreatDoor
