/- The walk of ValOn. No condition but that bytes are below 256. -/
import Derived.Test.YtckobbddjldflaaL11f
namespace Go.Proofs.Ytckobbddjldflaa
set_option linter.unusedSimpArgs false
set_option linter.unusedVariables false
set_option linter.unusedSectionVars false
set_option linter.unusedVariables false
open Go.RowKit
theorem own_blk {w : World} {B e g t : Nat} {k : IntKind} {v : Value} {xs : List Nat} {cs : Array Value} (h : Own w B e k v xs) (hb : Blk w g t cs) (hne : t ≠ e) : v.ownBlock ≠ some g := fun hv => by
  obtain ⟨-, h2⟩ := h
  rcases h2 with ⟨rfl, -⟩ | ⟨g', cap, cur, rfl, q2, q3, -⟩
  · cases hv
  · have : g' = g := Option.some.inj hv
    subst this
    unfold Blk at hb
    rw [hb] at q3
    injection q3 with q3
    injection q3 with _ q3
    exact hne q3
theorem Own.ch {w w' : World} {B e g t : Nat} {k : IntKind} {v : Value} {xs : List Nat} {cs : Array Value} (h : Own w B e k v xs) (hc : Ch g w w') (hb : Blk w g t cs) (hne : t ≠ e) : Own w' B e k v xs := by
  have hn := own_blk h hb hne
  obtain ⟨h1, h2⟩ := h
  refine ⟨h1, ?_⟩
  rcases h2 with h2 | ⟨g', cap, cur, rfl, q2, q3, q4⟩
  · exact .inl h2
  · refine .inr ⟨g', cap, cur, rfl, q2, ?_, q4⟩
    rw [hc.heap g' (Array.getElem?_eq_some_iff.1 q3).1 (fun e1 => hn (by rw [e1]; rfl))]
    exact q3
theorem Blk.grownTy {w w' : World} {B e g t : Nat} {k : IntKind} {v : Value} {xs : List Nat} {cs : Array Value} (hb : Blk w g t cs) (hgr : w.grownBy w' v.ownBlock) (h : Own w B e k v xs) (hne : t ≠ e) : Blk w' g t cs :=
  hb.grown hgr (fun e1 => own_blk h hb hne e1.symm)
/-- The first i rows, each padded by itself. -/
def allP (xss : List (List Nat)) (i : Nat) : List Nat := ((xss.take i).map padL).flatten
theorem allP_succ {xss : List (List Nat)} {i : Nat} (hi : i < xss.length) : allP xss (i + 1) = allP xss i ++ padL (xss.getD i []) := by
  unfold allP
  rw [List.take_add_one, getD_some hi]
  simp
theorem allP_mod (xss : List (List Nat)) : ∀ i, i ≤ xss.length → (allP xss i).length % 16 = 0
  | 0, _ => by simp [allP]
  | i + 1, h => by
    rw [allP_succ (by omega), List.length_append]
    have := allP_mod xss i (by omega)
    have := padL_mod (xss.getD i [])
    omega
theorem allP_lt {xss : List (List Nat)} (h : ∀ xs ∈ xss, ∀ x ∈ xs, x < 256) (i : Nat) : ∀ x ∈ allP xss i, x < 256 := fun x hx => by
  unfold allP at hx
  obtain ⟨l, hl, hxl⟩ := List.mem_flatten.1 hx
  obtain ⟨y, hy, rfl⟩ := List.mem_map.1 hl
  exact padL_lt (h y (List.mem_of_mem_take hy)) x hxl
/-- The value by what was written. -/
def stV (hs : List Nat) (A : List Nat) : List Nat := onL hs (zeros 16) A (A.length / 16)
theorem stV_step (hs A b : List Nat) (hA : A.length % 16 = 0) : onL hs (stV hs A) (padL b) ((padL b).length / 16) = stV hs (A ++ padL b) := by
  unfold stV
  have hp := padL_mod b
  rw [List.length_append, show (A.length + (padL b).length) / 16 = A.length / 16 + (padL b).length / 16 by omega, onL_append hs (zeros 16) (by omega)]
set_option maxRecDepth 100000 in
set_option maxHeartbeats 20000000 in
theorem valOn_c (hs : List Nat) (xss : List (List Nat)) (a : Option Addr) (c : Nat) (hl : hs.length = 16) (hb : ∀ x ∈ hs, x < 2 ^ 8) (hx : ∀ xs ∈ xss, ∀ x ∈ xs, x < 256) (w : World) (hs0 : SlS w a xss) :
    Calls Try.prog 7 #[.agg (ints .u8 hs), .slice a xss.length c] w fun e w' => e = .returned (.bool true) ∧ Below w.heap.size w w' := by
  have B0 := Blk.new w 22 (ints .u8 hs)
  have hbel0 := (Below.refl w.heap.size w).alloc (Nat.le_refl _) (.cells (ints .u8 hs) 22)
  by_cases h20 : xss.length ≤ 20
  · obtain ⟨n, HN⟩ : ∃ n, Hid (xss.length = n) := ⟨_, Lib.hid rfl⟩
    rw [HN.out] at h20 ⊢
    have hd0 : decide ((n : Int) > 20) = false := by simp; omega
    go_enter Try.func7, Try.ntmps7
    go_wp2_with (refine wpList_load_ints rfl 22 _ rfl w.heap.size rfl B0 Try.ar22 hl ?_; (try simp only [Act.put, List.setIfInBounds_toArray, List.set_cons_zero, List.set_cons_succ, World.size_alloc, setRow_size, Nat.add_assoc, Nat.reduceAdd]))
    generalize (w.alloc (.cells (ints .u8 hs) 22)) = w0 at *
    refine (new11_c hs hl hb _).mono ?_
    rintro e w1 ⟨g, gt, rfl, hg, hgt, hS, hb1⟩
    have hlt0 := B0.lt
    have C0 := B0.below' hb1
    have hbel := bCall hbel0 hb1 hbel0.size
    have hg2 : w.heap.size ≤ g := by omega
    clear B0 hbel0 hb1 hlt0
    go_wp2_with fail
    go_loopw [6, 7] (fun v t wr => ∃ i : Nat, i ≤ n ∧ t = .int .i64 i ∧ Own wr w.heap.size 5 .u8 v (allP xss i) ∧ (allP xss i).length ≤ 112 * i ∧ Blk wr w.heap.size 22 (ints .u8 hs) ∧ IsSt wr g gt hs (stV hs (allP xss i)) ∧ Below w.heap.size w wr) (fun v t wr => n - (intOf t).toNat)
    case atStart => exact ⟨0, by omega, rfl, Own.nil _ _ _ _, by simp [allP], C0, by rw [show stV hs (allP xss 0) = zeros 16 by simp [stV, allP, onL]]; exact hS, hbel⟩
    case round =>
      rename_i hrel
      obtain ⟨i, hi, rfl, hown, hal, D0, hS1, hbelr⟩ := hrel
      clear C0 hS hbel
      by_cases hlt : i < n
      · have hlx : i < xss.length := by rw [HN.out]; exact hlt
        obtain ⟨g3, off, ai, ci, rfl, hg3, hc3, hsl, hnil⟩ := hs0 i hlx
        have cw := (hbelr.cell (p := ⟨g3, off + i, none⟩) hg3).trans hc3
        have hd1 : decide ((i : Int) < (n : Int)) = true := by simp; omega
        have hx8 := getD_prop (p := fun l => ∀ x ∈ l, x < 256) hx hlx
        have HAS := Lib.hid (allP_succ hlx)
        have hAm := allP_mod xss i (by rw [HN.out]; exact hi)
        have hA8 := allP_lt hx i
        generalize xss.getD i [] = b at *
        by_cases h100 : b.length ≤ 100
        · have hd2 : decide ((b.length : Int) > 100) = false := by simp; omega
          have HC3 := Lib.hid hc3
          clear hc3
          obtain ⟨A, HA⟩ : ∃ A, Hid (allP xss i = A) := ⟨_, Lib.hid rfl⟩
          rw [HA.out] at hown hal hS1 hAm hA8 HAS
          have hAp8 : ∀ x ∈ A ++ padL b, x < 256 := fun x hx => (List.mem_append.1 hx).elim (hA8 x) (padL_lt hx8 x)
          have hApm : (A ++ padL b).length % 16 = 0 := by rw [List.length_append]; have := padL_mod b; omega
          have hApl : (A ++ padL b).length ≤ 112 * (i + 1) := by rw [List.length_append, padL_len]; omega
          have HV := Lib.hid (show valL hs (A ++ padL b) = stV hs (A ++ padL b) from valL_whole hApm)
          have hln : A.length + b.length < 2 ^ 40 := by omega
          have hi20 : i < 20 := by omega
          have HP : Hid (A ++ padL b = (A ++ b) ++ zeros ((16 - b.length % 16) % 16)) := Lib.hid (by unfold padL; rw [List.append_assoc])
          have hwr : w.heap.size ≤ wr.heap.size := hbelr.size
          go_wp2_with fail
          refine (write11_c g gt hs (stV hs A) b hl hb (onL_len (zeros_len _) _) (onL_lt (zeros_lt _ (by omega)) _) (by omega) hx8 ai ci _ hS1 (hsl.below hbelr)).mono ?_
          rintro e w2 ⟨rfl, hS2, hch⟩
          rw [stV_step hs A b hAm] at hS2
          have hown2 := hown.ch hch hS1.1 (by decide)
          have E0 := hch.blk D0 (D0.ne_ hS1.1 (by decide))
          have hbel2 := hch.below hbelr hg2 hwr
          have c2 := (hbel2.cell (p := ⟨g3, off + i, none⟩) hg3).trans HC3.out
          have Sb2 := hsl.below hbel2
          have hB2 := hbel2.size
          clear hown D0 hS1 hbelr cw hch hwr
          go_wp2_with (refine wpList_append_sl (zs := b) rfl rfl Try.underlying23 u8_inf rfl (by omega) rfl hown2 rfl rfl hnil Sb2 hln hB2 ?_; intro v3 w3 hown3 hgr; have hbel3 := bGrown hbel2 hgr hB2 hown2 (Nat.le_refl _); have F0 := E0.grownTy hgr hown2 (by decide); have hS3 : IsSt w3 g gt hs (stV hs (A ++ padL b)) := ⟨hS2.1.grownTy hgr hown2 (by decide), hS2.2.grownTy hgr hown2 (by decide)⟩; clear hgr hown2 E0 hS2 hbel2 c2 Sb2 hB2; (try simp only [Act.put, List.setIfInBounds_toArray, List.set_cons_zero, List.set_cons_succ, World.size_alloc, setRow_size, Nat.add_assoc, Nat.reduceAdd]))
          go_loopw [6] (fun v wr => ∃ j : Nat, j ≤ (16 - b.length % 16) % 16 ∧ Own wr w.heap.size 5 .u8 v ((A ++ b) ++ zeros j) ∧ Blk wr w.heap.size 22 (ints .u8 hs) ∧ IsSt wr g gt hs (stV hs (A ++ padL b)) ∧ Below w.heap.size w wr) (fun v wr => (16 - lenOfV v % 16) % 16)
          case atStart => exact ⟨0, by omega, by simpa [zeros] using hown3, F0, hS3, hbel3⟩
          case round =>
            rename_i hrel
            obtain ⟨j, hj, hown4, G0, hS4, hbel4⟩ := hrel
            clear hown3 F0 hS3 hbel3
            obtain ⟨av, cv, rfl, hslv, -, -⟩ := hown4.sl
            have hlv : ((A ++ b) ++ zeros j).length = A.length + b.length + j := by rw [List.length_append, List.length_append, zeros_len]
            have hB4 := hbel4.size
            by_cases hlj : j < (16 - b.length % 16) % 16
            · have hne : ((((((A ++ b) ++ zeros j).length : Nat) : Int) % 16) == 0) = false := by rw [hlv]; simp; omega
              have hln1 : ((A ++ b) ++ zeros j).length < 2 ^ 40 := by rw [hlv]; omega
              have HZ : Hid (((A ++ b) ++ zeros j) ++ [0] = (A ++ b) ++ zeros (j + 1)) := Lib.hid (by rw [List.append_assoc (A ++ b), show [0] = zeros 1 from rfl, zeros_add])
              have Hl1 : Hid (((A ++ b) ++ zeros (j + 1)).length = A.length + b.length + (j + 1)) := Lib.hid (by rw [List.length_append, List.length_append, zeros_len])
              have Hlv := Lib.hid hlv
              clear hlv hslv
              generalize (A ++ b) ++ zeros j = zs at *
              go_wp2_with (refine wpList_append_one (n := 0) rfl rfl Try.underlying23 u8_inf rfl (by omega) rfl (hown4.alloc _) rfl (by simp) hln1 (by simp; omega) ?_; intro v5 w5 hown5 hgr; (try simp only [Act.put, List.setIfInBounds_toArray, List.set_cons_zero, List.set_cons_succ, World.size_alloc, setRow_size, Nat.add_assoc, Nat.reduceAdd]))
              rw [HZ.out] at hown5
              have hbel5 := bGrown (hbel4.alloc hB4 (.cells #[.int .u8 0] 5)) hgr (by simp; omega) (hown4.alloc _) (Nat.le_refl _)
              have K0 := (G0.alloc (.cells #[.int .u8 0] 5)).grownTy hgr (hown4.alloc _) (by decide)
              have hS5 : IsSt w5 g gt hs (stV hs (A ++ padL b)) := ⟨(hS4.1.alloc (.cells #[.int .u8 0] 5)).grownTy hgr (hown4.alloc _) (by decide), (hS4.2.alloc (.cells #[.int .u8 0] 5)).grownTy hgr (hown4.alloc _) (by decide)⟩
              obtain ⟨av2, cv2, rfl, -, -, -⟩ := hown5.sl
              refine ⟨⟨j + 1, by omega, hown5, K0, hS5, hbel5⟩, ?_⟩
              have q1 := Hl1.out
              have q2 := Hlv.out
              show (16 - ((A ++ b) ++ zeros (j + 1)).length % 16) % 16 < (16 - zs.length % 16) % 16
              omega
            · obtain rfl : j = (16 - b.length % 16) % 16 := by omega
              have hne : ((((((A ++ b) ++ zeros ((16 - b.length % 16) % 16)).length : Nat) : Int) % 16) == 0) = true := by rw [hlv]; simp; omega
              rw [← HP.out] at hown4 hne hslv ⊢
              clear hlv HP
              generalize A ++ padL b = AP at *
              have hsv := onL_len (h := hs) (v := zeros 16) (bs := AP) (zeros_len _) ((AP).length / 16)
              have hA31 : (AP).length < 2 ^ 31 := by omega
              have L1 := Lib.hid fun W (hW : Below wr.heap.size wr W) => value11_c g gt (stV hs (AP)) hsv W (hS4.1.below' hW)
              have L2 : Hid (∀ W, Below wr.heap.size wr W → Calls Try.prog 11 #[.agg (ints .u8 hs), .slice av (AP).length cv] W fun e w' => e = .returned (.agg (ints .u8 (stV hs (AP)))) ∧ Below W.heap.size W w') := Lib.hid fun W hW => by
                have h := sum11_c hs (AP) hl hb hA31 hAp8 av cv W (hslv.below hW)
                rw [HV.out] at h
                exact h
              have fne := fun W => ne16d (stV hs (AP)) (stV hs (AP)) hsv hsv W
              rw [show (stV hs (AP) == stV hs (AP)) = true by simp] at fne
              have Fne := Lib.hid (show ∀ W : World, (binOp .neq 22 (.agg (ints .u8 (stV hs (AP)))) (.agg (ints .u8 (stV hs (AP))))).run Try.prog W = .ok (.bool false) W from fne)
              clear fne hslv
              go_wp2
              refine wp_region_below (by kernel_rfl) (by kernel_rfl) ?_
              refine quiet_move rfl rfl rfl ?_
              (try simp only [Act.put, List.setIfInBounds_toArray, List.set_cons_zero, List.set_cons_succ, World.size_alloc, setRow_size, Nat.add_assoc, Nat.reduceAdd])
              refine quiet_call 20 rfl rfl Try.func20 (by kernel_rfl) (by kernel_rfl) (fun W hQ => L1.out W hQ) ?_
              (try simp only [Act.put, List.setIfInBounds_toArray, List.set_cons_zero, List.set_cons_succ, World.size_alloc, setRow_size, Nat.add_assoc, Nat.reduceAdd])
              refine quiet_load rfl rfl rfl G0 Try.ar22 hl ?_
              (try simp only [Act.put, List.setIfInBounds_toArray, List.set_cons_zero, List.set_cons_succ, World.size_alloc, setRow_size, Nat.add_assoc, Nat.reduceAdd])
              refine quiet_move rfl rfl rfl ?_
              (try simp only [Act.put, List.setIfInBounds_toArray, List.set_cons_zero, List.set_cons_succ, World.size_alloc, setRow_size, Nat.add_assoc, Nat.reduceAdd])
              refine quiet_call 11 rfl rfl Try.func11 (by kernel_rfl) (by kernel_rfl) (fun W hQ => L2.out W hQ) ?_
              (try simp only [Act.put, List.setIfInBounds_toArray, List.set_cons_zero, List.set_cons_succ, World.size_alloc, setRow_size, Nat.add_assoc, Nat.reduceAdd])
              refine quiet_neq rfl rfl rfl rfl eg16 Fne.out ?_
              (try simp only [Act.put, List.setIfInBounds_toArray, List.set_cons_zero, List.set_cons_succ, World.size_alloc, setRow_size, Nat.add_assoc, Nat.reduceAdd])
              refine wpQuiet_nil ?_
              intro w' hw'
              have M0 := G0.below' hw'
              have hown6 := hown4.below hw'
              have hS6 : IsSt w' g gt hs (stV hs (AP)) := ⟨hS4.1.below' hw', hS4.2.below' hw'⟩
              have hbel6 := bCall hbel4 hw' hB4
              go_wp2
              exact ⟨⟨i + 1, by omega, by go_num, by rw [HAS.out]; exact hown6, by rw [HAS.out]; exact hApl, M0, by rw [HAS.out]; exact hS6, hbel6⟩, by simp [intOf] <;> omega⟩
        · have hd2 : decide ((b.length : Int) > 100) = true := by simp; omega
          clear HAS hc3
          go_wp2
          go_ret
          exact ⟨rfl, hbelr⟩
      · obtain rfl : i = n := by omega
        have hd1 : decide ((i : Int) < (i : Int)) = false := by simp
        have f1 := fun W => same16d (zeros 16) (zeros 16) (zeros_len _) rfl W
        rw [zeros16_c] at f1
        go_wp2_with fail
        refine (writeNil11_c _ _).mono ?_
        rintro e w2 ⟨rfl, hb2⟩
        have hbel2 := bCall hbelr hb2 hbelr.size
        go_wp2_with fail
        refine (valueNil11_c _).mono ?_
        rintro e w3 ⟨rfl, hb3⟩
        have hbel3 := bCall hbel2 hb3 hbel2.size
        rw [zeros16_c]
        go_wp2_with fail
        refine (awake11_c _).mono ?_
        rintro e w4 ⟨rfl, hb4⟩
        have hbel4 := bCall hbel3 hb4 hbel3.size
        go_wp2_with fail
        go_ret
        exact ⟨rfl, hbel4⟩
  · have hd0 : decide ((xss.length : Int) > 20) = true := by simp; omega
    go_enter Try.func7, Try.ntmps7
    go_wp2
    go_ret
    exact ⟨rfl, hbel0⟩
end Go.Proofs.Ytckobbddjldflaa
