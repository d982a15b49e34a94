/- The walk of ValPowers; plus. No condition but that bytes are below 256. -/
import Derived.Test.YtckobbddjldflaaL11b
import Derived.Test.YtckobbddjldflaaRow3
namespace Go.Proofs.Ytckobbddjldflaa
set_option linter.unusedSimpArgs false
set_option linter.unusedVariables false
set_option linter.unusedSectionVars false
set_option linter.unusedVariables false
open Go.RowKit
open Gf (W2 up upN mulS mul R1 D1 dot)
set_option maxRecDepth 100000 in
set_option maxHeartbeats 4000000 in
theorem plus11_c (xs ys : List Nat) (hl : xs.length = 16) (hb : ∀ x ∈ xs, x < 256) (hl' : ys.length = 16) (hb' : ∀ x ∈ ys, x < 256) (w : World) :
    Calls Try.prog 17 #[.agg (ints .u8 xs), .agg (ints .u8 ys)] w fun e w' => e = .returned (.agg (ints .u8 (xorL xs ys))) ∧ Below w.heap.size w w' := by
  have B0 := ((Blk.new w 22 (ints .u8 xs)).alloc (.cells (ints .u8 ys) 22)).alloc (.cells (ints .u8 (zeros 16)) 22)
  have B1 := (Blk.new (w.alloc (.cells (ints .u8 xs) 22)) 22 (ints .u8 ys)).alloc (.cells (ints .u8 (zeros 16)) 22)
  have B2 := Blk.new ((w.alloc (.cells (ints .u8 xs) 22)).alloc (.cells (ints .u8 ys) 22)) 22 (ints .u8 (zeros 16))
  rw [World.size_alloc] at B1
  rw [World.size_alloc, World.size_alloc] at B2
  simp only [Nat.add_assoc, Nat.reduceAdd] at B2
  have hbel := (((Below.refl w.heap.size w).alloc (Nat.le_refl _) (.cells (ints .u8 xs) 22)).alloc (by simp) (.cells (ints .u8 ys) 22)).alloc (by simp; omega) (.cells (ints .u8 (zeros 16)) 22)
  go_enter Try.func17, Try.ntmps17
  go_wp2_with (refine wpList_alloc_ints rfl 22 rfl Try.z22 ?_; (try simp only [Act.put, List.setIfInBounds_toArray, List.set_cons_zero, List.set_cons_succ, World.size_alloc, setRow_size, Nat.add_assoc, Nat.reduceAdd]))
  generalize (((w.alloc (.cells (ints .u8 xs) 22)).alloc (.cells (ints .u8 ys) 22)).alloc (.cells (ints .u8 (zeros 16)) 22)) = w1 at *
  go_loopw [5] (fun t wr => ∃ k : Nat, k ≤ 16 ∧ t = .int .i64 k ∧ Blk wr w.heap.size 22 (ints .u8 (xorK xs ys k)) ∧ Blk wr (w.heap.size + 1) 22 (ints .u8 ys) ∧ Blk wr (w.heap.size + 2) 22 (ints .u8 (zeros 16)) ∧ Below w.heap.size w wr) (fun t wr => 16 - (intOf t).toNat)
  case atStart => exact ⟨0, by omega, rfl, by rw [show xorK xs ys 0 = xs from rfl]; exact B0, B1, B2, hbel⟩
  case round =>
    rename_i hrel
    obtain ⟨k, hk, rfl, C0, C1, C2, hbelr⟩ := hrel
    by_cases hlt : k < 16
    · have hkl := xorK_len (ys := ys) hl hk
      have c0 := C0.int (i := k) (by omega)
      have c1 := C1.int (i := k) (by omega)
      have z0 := C0.frozen k
      have hg := xorK_get (ys := ys) hl hlt
      rw [hg] at c0
      have vx := getD_bound hb (by omega) k
      have vy := getD_bound hb' (by omega) k
      have C0' := C0.intSet k (xs.getD k 0 ^^^ ys.getD k 0)
      rw [xorK_set hl hlt] at C0'
      have HC := Lib.hid C0'
      have hxor := u8xor vx vy
      have HX := Lib.hid hxor
      clear C0' hkl hg hxor
      generalize xs.getD k 0 = x at *
      generalize ys.getD k 0 = y at *
      go_wp2
      go_region
      all_goals
        rw [HX.out]
        go_wp2
        exact ⟨⟨k + 1, by omega, by go_num, HC.out.drew, (C1.far (by first | omega | (simp; done) | (simp; omega)) _).drew, (C2.far (by first | omega | (simp; done) | (simp; omega)) _).drew, (hbelr.setCell (by first | omega | (simp; done) | (simp; omega)) _).drew⟩, by simp [intOf] <;> omega⟩
    · obtain rfl : k = 16 := by omega
      have he : xorK xs ys 16 = xorL xs ys := by unfold xorK; rw [List.take_of_length_le (by rw [xorL_len]; omega), List.drop_of_length_le (by omega), List.append_nil]
      rw [he] at C0
      clear he
      have hxl := xorL_len xs ys
      go_wp2_with (first | (refine wpList_load_ints rfl 22 _ rfl w.heap.size rfl C0 Try.ar22 hxl ?_; (try simp only [Act.put, List.setIfInBounds_toArray, List.set_cons_zero, List.set_cons_succ, World.size_alloc, setRow_size, Nat.add_assoc, Nat.reduceAdd])) | (refine wpList_store_ints rfl 22 _ _ rfl (w.heap.size + 2) rfl rfl C2 (zeros_size _ _) Try.ar22 hxl ?_; (try simp only [Act.put, List.setIfInBounds_toArray, List.set_cons_zero, List.set_cons_succ, World.size_alloc, setRow_size, Nat.add_assoc, Nat.reduceAdd])))
      exact ret_ints rfl rfl (C2.row _) Try.ar22 hxl ⟨rfl, bSetRow hbelr (by omega) _⟩
theorem dot11_c (xs ys : List Nat) (hl : xs.length = 16) (hb : ∀ x ∈ xs, x < 256) (hl' : ys.length = 16) (hb' : ∀ x ∈ ys, x < 256) (w : World) :
    Calls Try.prog 24 #[.agg (ints .u8 xs), .agg (ints .u8 ys)] w fun e w' => e = .returned (.agg (ints .u8 (dotL xs ys))) ∧ Below w.heap.size w w' := dot10_c xs ys hl hb hl' hb' w
theorem wpList_load_range {P : Program} {ops : Array Oper} {rest : List Oper} {o : Oper} {a : Act} {w : World} {Q : Exit → Act → World → Prop} (hgd : o.guard = none) (T : TypeId) (x : Operand) (ho : o.op = .load T x) (g off : Nat) (hx : a.eval x = .pointer (some ⟨g, off, none⟩)) {k : IntKind} {xs : List Nat} {n : Nat} (hc : w.rangeAt g off (vals k xs)) (ha : IsArr P T n) (hl : xs.length = n)
    (h : wpList P ops Q rest (a.put o.dst (.agg (ints k xs))) w) : wpList P ops Q (o :: rest) a w := by
  obtain ⟨⟨d, h1, hd⟩, h2⟩ := ha
  exact wpList_load_mid hgd T x ho g off hx (vals k xs) d hc h1 hd (by rw [h2, vals_len, hl]) h
theorem own_far {w : World} {B e g : Nat} {k : IntKind} {v : Value} {xs : List Nat} (h : Own w B e k v xs) (hne : ∀ g', v.ownBlock = some g' → g' ≠ g) (cs : Array Value) : Own (w.setRow g cs) B e k v xs := by
  obtain ⟨h1, h2⟩ := h
  refine ⟨h1, ?_⟩
  rcases h2 with h2 | ⟨g', cap, cur, q1, q2, q3, q4⟩
  · exact .inl h2
  · refine .inr ⟨g', cap, cur, q1, q2, ?_, q4⟩
    subst q1
    rw [setRow_other _ _ _ _ (hne g' rfl)]
    exact q3
theorem flat16 {xss : List (List Nat)} (h : ∀ xs ∈ xss, xs.length = 16) : xss.flatten.length = 16 * xss.length := by
  induction xss with
  | nil => rfl
  | cons x xss ih =>
    rw [List.flatten_cons, List.length_append, ih (fun y hy => h y (List.mem_cons_of_mem _ hy)), h x (List.mem_cons_self), List.length_cons]; omega
theorem blk_flat {xss : List (List Nat)} (h : ∀ xs ∈ xss, xs.length = 16) : ∀ i, i < xss.length → blk xss.flatten i = xss.getD i [] := by
  induction xss with
  | nil => intro i hi; simp at hi
  | cons x xss ih =>
    intro i hi
    have hx := h x (List.mem_cons_self)
    rw [List.flatten_cons]
    cases i with
    | zero =>
      rw [blk_append_l (by omega)]
      unfold blk
      rw [Nat.mul_zero, List.drop_zero, List.take_of_length_le (by omega)]; rfl
    | succ i =>
      have := blk_append_r (a := x) (b := xss.flatten) (k := 1) (by omega) i
      rw [show i + 1 = 1 + i by omega, this, ih (fun y hy => h y (List.mem_cons_of_mem _ hy)) i (by simpa using hi)]
      rw [show 1 + i = i + 1 by omega]; rfl
theorem getD_prop {xss : List (List Nat)} {p : List Nat → Prop} (h : ∀ xs ∈ xss, p xs) {i : Nat} (hi : i < xss.length) : p (xss.getD i []) := by
  rw [List.getD_eq_getElem?_getD, List.getElem?_eq_getElem hi]
  exact h _ (List.getElem_mem hi)
theorem flat_lt {xss : List (List Nat)} (h : ∀ xs ∈ xss, ∀ x ∈ xs, x < 256) : ∀ x ∈ xss.flatten, x < 256 := fun x hx => by
  obtain ⟨l, hl, hxl⟩ := List.mem_flatten.1 hx
  exact h l hl x hxl
theorem valL_whole {h bs : List Nat} (hm : bs.length % 16 = 0) : valL h bs = onL h (zeros 16) bs (bs.length / 16) := by unfold valL; rw [padL_whole hm]
set_option maxRecDepth 100000 in
set_option maxHeartbeats 20000000 in
theorem valPowers_c (hs : List Nat) (xss : List (List Nat)) (a : Option Addr) (c : Nat) (hl : hs.length = 16) (hb : ∀ x ∈ hs, x < 2 ^ 8) (hx : ∀ xs ∈ xss, xs.length = 16 ∧ ∀ x ∈ xs, x < 2 ^ 8) (w : World) (hs0 : SlA w a .u8 16 xss) :
    Calls Try.prog 10 #[.agg (ints .u8 hs), .slice a xss.length c] w fun e w' => e = .returned (.bool true) ∧ Below w.heap.size w w' := by
  have B0 := Blk.new w 22 (ints .u8 hs)
  have hbel0 := (Below.refl w.heap.size w).alloc (Nat.le_refl _) (.cells (ints .u8 hs) 22)
  by_cases h20 : xss.length ≤ 20
  · have hx16 : ∀ xs ∈ xss, xs.length = 16 := fun xs h => (hx xs h).1
    have hx8 : ∀ xs ∈ xss, ∀ x ∈ xs, x < 256 := fun xs h => (hx xs h).2
    have hfl := flat16 hx16
    have hfb := flat_lt hx8
    obtain ⟨n, HN⟩ : ∃ n, Hid (xss.length = n) := ⟨_, Lib.hid rfl⟩
    rw [HN.out] at h20 hfl ⊢
    have HFL := Lib.hid hfl
    clear hfl
    have hd0 : decide ((n : Int) > 20) = false := by simp; omega
    have B1 := (B0.alloc (.cells (ints .u8 (zeros 16)) 22))
    have Z1 := Blk.new (w.alloc (.cells (ints .u8 hs) 22)) 22 (ints .u8 (zeros 16))
    rw [World.size_alloc] at Z1
    have hbel := hbel0.alloc (by simp) (.cells (ints .u8 (zeros 16)) 22)
    clear B0 hbel0
    go_enter Try.func10, Try.ntmps10
    go_wp2_with (refine wpList_alloc_ints rfl 22 rfl Try.z22 ?_; (try simp only [Act.put, List.setIfInBounds_toArray, List.set_cons_zero, List.set_cons_succ, World.size_alloc, setRow_size, Nat.add_assoc, Nat.reduceAdd]))
    generalize ((w.alloc (.cells (ints .u8 hs) 22)).alloc (.cells (ints .u8 (zeros 16)) 22)) = w0 at *
    go_loopw [5, 7] (fun v t wr => ∃ i : Nat, i ≤ n ∧ t = .int .i64 i ∧ Own wr (w.heap.size + 2) 5 .u8 v ((xss.take i).flatten) ∧ Blk wr w.heap.size 22 (ints .u8 hs) ∧ Blk wr (w.heap.size + 1) 22 (ints .u8 (powS hs xss.flatten n i)) ∧ Below w.heap.size w wr) (fun v t wr => n - (intOf t).toNat)
    case atStart => exact ⟨0, by omega, rfl, Own.nil _ _ _ _, B1, Z1, hbel⟩
    case round =>
      rename_i hrel
      obtain ⟨i, hi, rfl, hown, C0, C1, hbelr⟩ := hrel
      clear B1 Z1 hbel
      by_cases hlt : i < n
      · have hlx : i < xss.length := by rw [HN.out]; exact hlt
        obtain ⟨g, off, rfl, hg, hr⟩ := (hs0.below hbelr) i hlx
        have hxi := getD_prop (p := fun l => l.length = 16) hx16 hlx
        have hxi8 := getD_prop (p := fun l => ∀ x ∈ l, x < 256) hx8 hlx
        have hbk := blk_flat hx16 i hlx
        have hps := powS_len hs xss.flatten n i
        have hps8 := powS_lt (h := hs) hfb n i
        have Hpn := Lib.hid (show powS hs xss.flatten n (i + 1) = xorL (powS hs xss.flatten n i) (dotN hs (xss.getD i []) (n - i)) by rw [← hbk]; rfl)
        have Hfs := Lib.hid (flat_succ hlx)
        have hsl := range_sl hg hr
        have hln : (xss.take i).flatten.length + (xss.getD i []).length < 2 ^ 40 := by
          rw [hxi, flat16 (fun y hy => hx16 y (List.mem_of_mem_take hy)), List.length_take]; omega
        have hd1 : decide ((i : Int) < (n : Int)) = true := by simp; omega
        have hB : w.heap.size + 2 ≤ wr.heap.size := by have := C1.lt; omega
        have HS0 := fun W (hW : Below w.heap.size w W) => (hs0.below hW) i hlx
        have HSR := Lib.hid HS0
        clear hbk HS0
        obtain ⟨xi, HX⟩ : ∃ xi, Hid (xss.getD i [] = xi) := ⟨_, Lib.hid rfl⟩
        rw [HX.out] at hxi hxi8 hsl hln Hpn Hfs HSR hr
        generalize (xss.take i).flatten = zs at *
        go_wp2_with (first
          | (refine wpList_append_sl (zs := xi) rfl rfl Try.underlying23 u8_inf rfl (by omega) rfl hown rfl hxi.symm (fun h => by cases h) hsl hln hB ?_; intro v2 w2 hown2 hgr; have hbel2 := bGrown hbelr hgr (by omega) hown (by omega); have D0 := C0.grownOwn hgr hown (by omega); have D1 := C1.grownOwn hgr hown (by omega); clear hgr hown; have hr2 : w2.rangeAt g (off + i * 16) (vals .u8 xi) := (by (obtain ⟨g2, off2, q1, -, q3⟩ := HSR.out _ hbel2; cases q1; exact q3)); have hz2 := hbel2.size; have hlt1 := D1.lt; have E8 := Blk.new w2 22 (ints .u8 (zeros 16)); (try simp only [Act.put, List.setIfInBounds_toArray, List.set_cons_zero, List.set_cons_succ, World.size_alloc, setRow_size, Nat.add_assoc, Nat.reduceAdd]))
          | (refine wpList_load_range (xs := xi) rfl 22 _ rfl g (off + i * 16) rfl hr2 Try.ar22 hxi ?_; (try simp only [Act.put, List.setIfInBounds_toArray, List.set_cons_zero, List.set_cons_succ, World.size_alloc, setRow_size, Nat.add_assoc, Nat.reduceAdd]))
          | (refine wpList_alloc_ints rfl 22 rfl Try.z22 ?_; (try simp only [Act.put, List.setIfInBounds_toArray, List.set_cons_zero, List.set_cons_succ, World.size_alloc, setRow_size, Nat.add_assoc, Nat.reduceAdd]))
          | (refine wpList_store_ints (k := .u8) (xs := xi) rfl 22 _ _ rfl w2.heap.size rfl rfl E8 (zeros_size _ _) Try.ar22 hxi ?_; (try simp only [Act.put, List.setIfInBounds_toArray, List.set_cons_zero, List.set_cons_succ, World.size_alloc, setRow_size, Nat.add_assoc, Nat.reduceAdd])))
        have K8 := E8.row (ints .u8 xi)
        have K0 := (D0.alloc (.cells (ints .u8 (zeros 16)) 22)).rowFar (show w.heap.size ≠ w2.heap.size by omega) (ints .u8 xi)
        have K1 := (D1.alloc (.cells (ints .u8 (zeros 16)) 22)).rowFar (show w.heap.size + 1 ≠ w2.heap.size by omega) (ints .u8 xi)
        have hbel3 := bSetRow (hbel2.alloc hz2 (.cells (ints .u8 (zeros 16)) 22)) hz2 (ints .u8 xi)
        have hn8 : ∀ g', v2.ownBlock = some g' → g' ≠ w2.heap.size := fun g' hg' => by have := (World.ownsRow.lt hown2 g' hg').2; omega
        have hown3 := own_far (hown2.alloc (.cells (ints .u8 (zeros 16)) 22)) hn8 (ints .u8 xi)
        obtain ⟨g8, hg8⟩ : ∃ g8, g8 = w2.heap.size := ⟨_, rfl⟩
        rw [← hg8] at K8 K0 K1 hbel3 hown3 hn8 ⊢
        have hg82 : w.heap.size + 2 ≤ g8 := by omega
        clear E8 D0 D1 hbel2 hr2 hg8 C0 C1 hbelr hr hsl hB hz2 hlt1 hg
        generalize (w2.alloc (.cells (ints .u8 (zeros 16)) 22)).setRow g8 (ints .u8 xi) = w3 at *
        go_loopw [9] (fun t wr => ∃ k : Nat, i ≤ k ∧ k ≤ n ∧ t = .int .i64 k ∧ Own wr (w.heap.size + 2) 5 .u8 v2 (zs ++ xi) ∧ Blk wr w.heap.size 22 (ints .u8 hs) ∧ Blk wr (w.heap.size + 1) 22 (ints .u8 (powS hs xss.flatten n i)) ∧ Blk wr g8 22 (ints .u8 (dotN hs xi (k - i))) ∧ Below w.heap.size w wr) (fun t wr => n - (intOf t).toNat)
        case atStart => exact ⟨i, Nat.le_refl _, hi, rfl, hown3, K0, K1, by rw [Nat.sub_self]; exact K8, hbel3⟩
        case round =>
          rename_i hrel
          obtain ⟨k, hik, hk, rfl, hown4, L0, L1, L8, hbel4⟩ := hrel
          clear K0 K1 K8 hbel3 hown3
          have hdl := dotN_len (h := hs) hxi (k - i)
          have hdb := dotN_lt (h := hs) hxi8 (k - i)
          by_cases hkn : k < n
          · have hd2 : decide ((k : Int) < (n : Int)) = true := by simp; omega
            have Hd := Lib.hid (show dotN hs xi (k + 1 - i) = dotL (dotN hs xi (k - i)) hs by rw [show k + 1 - i = (k - i) + 1 by omega]; rfl)
            go_wp2_with (first
              | (refine wpList_load_ints rfl 22 _ rfl g8 rfl L8 Try.ar22 hdl ?_; (try simp only [Act.put, List.setIfInBounds_toArray, List.set_cons_zero, List.set_cons_succ, World.size_alloc, setRow_size, Nat.add_assoc, Nat.reduceAdd]))
              | (refine wpList_load_ints rfl 22 _ rfl w.heap.size rfl L0 Try.ar22 hl ?_; (try simp only [Act.put, List.setIfInBounds_toArray, List.set_cons_zero, List.set_cons_succ, World.size_alloc, setRow_size, Nat.add_assoc, Nat.reduceAdd])))
            refine (dot11_c _ _ hdl hdb hl hb _).mono ?_
            rintro e w5 ⟨rfl, hb5⟩
            rw [← Hd.out]
            have hdn := dotN_len (h := hs) hxi (k + 1 - i)
            have M8' := L8.below' hb5
            have M8 := M8'.row (ints .u8 (dotN hs xi (k + 1 - i)))
            have M0 := (L0.below' hb5).rowFar (show w.heap.size ≠ g8 by omega) (ints .u8 (dotN hs xi (k + 1 - i)))
            have M1 := (L1.below' hb5).rowFar (show w.heap.size + 1 ≠ g8 by omega) (ints .u8 (dotN hs xi (k + 1 - i)))
            have hbel5 := bSetRow (bCall hbel4 hb5 hbel4.size) (show w.heap.size ≤ g8 by omega) (ints .u8 (dotN hs xi (k + 1 - i)))
            have hown5 := own_far (hown4.below hb5) hn8 (ints .u8 (dotN hs xi (k + 1 - i)))
            go_wp2_with (refine wpList_store_ints (k := .u8) (xs := dotN hs xi (k + 1 - i)) rfl 22 _ _ rfl g8 rfl rfl M8' (by rw [ints_size, hdl]) Try.ar22 hdn ?_; (try simp only [Act.put, List.setIfInBounds_toArray, List.set_cons_zero, List.set_cons_succ, World.size_alloc, setRow_size, Nat.add_assoc, Nat.reduceAdd]))
            exact ⟨⟨k + 1, by omega, by omega, by go_num, hown5, M0, M1, M8, hbel5⟩, by simp [intOf] <;> omega⟩
          · obtain rfl : k = n := by omega
            have hd2 : decide ((k : Int) < (k : Int)) = false := by simp
            go_wp2_with (first
              | (refine wpList_load_ints rfl 22 _ rfl g8 rfl L8 Try.ar22 hdl ?_; (try simp only [Act.put, List.setIfInBounds_toArray, List.set_cons_zero, List.set_cons_succ, World.size_alloc, setRow_size, Nat.add_assoc, Nat.reduceAdd]))
              | (refine wpList_load_ints rfl 22 _ rfl (w.heap.size + 1) rfl L1 Try.ar22 hps ?_; (try simp only [Act.put, List.setIfInBounds_toArray, List.set_cons_zero, List.set_cons_succ, World.size_alloc, setRow_size, Nat.add_assoc, Nat.reduceAdd])))
            refine (plus11_c _ _ hps hps8 hdl hdb _).mono ?_
            rintro e w5 ⟨rfl, hb5⟩
            rw [← Hpn.out]
            have hpn := powS_len hs xss.flatten k (i + 1)
            have M1' := L1.below' hb5
            have M1 := M1'.row (ints .u8 (powS hs xss.flatten k (i + 1)))
            have M0 := (L0.below' hb5).rowFar (show w.heap.size ≠ w.heap.size + 1 by omega) (ints .u8 (powS hs xss.flatten k (i + 1)))
            have hbel5 := bSetRow (bCall hbel4 hb5 hbel4.size) (show w.heap.size ≤ w.heap.size + 1 by omega) (ints .u8 (powS hs xss.flatten k (i + 1)))
            have hn1 : ∀ g', v2.ownBlock = some g' → g' ≠ w.heap.size + 1 := fun g' hg' => by have := (World.ownsRow.lt hown4 g' hg').1; omega
            have hown5 := own_far (hown4.below hb5) hn1 (ints .u8 (powS hs xss.flatten k (i + 1)))
            go_wp2_with (refine wpList_store_ints (k := .u8) (xs := powS hs xss.flatten k (i + 1)) rfl 22 _ _ rfl (w.heap.size + 1) rfl rfl M1' (by rw [ints_size, hps]) Try.ar22 hpn ?_; (try simp only [Act.put, List.setIfInBounds_toArray, List.set_cons_zero, List.set_cons_succ, World.size_alloc, setRow_size, Nat.add_assoc, Nat.reduceAdd]))
            exact ⟨⟨i + 1, by omega, by go_num, by rw [Hfs.out]; exact hown5, M0, M1, hbel5⟩, by simp [intOf] <;> omega⟩
      · obtain rfl : i = n := by omega
        have hd1 : decide ((i : Int) < (i : Int)) = false := by simp
        have he : xss.take i = xss := List.take_of_length_le (by rw [HN.out]; omega)
        rw [he] at hown
        have hps := powS_len hs xss.flatten i i
        have hfm : xss.flatten.length % 16 = 0 := by rw [HFL.out]; omega
        have hfd : xss.flatten.length / 16 = i := by rw [HFL.out]; omega
        have hv1 : valL hs xss.flatten = powS hs xss.flatten i i := by rw [valL_whole hfm, hfd]; exact onL_powers hl hb hfb i (Nat.le_of_eq HFL.out.symm)
        have hv0 : valL (zeros 16) xss.flatten = zeros 16 := by rw [valL_whole hfm, hfd]; exact onL_zero hfb i (Nat.le_of_eq HFL.out.symm)
        have hf31 : xss.flatten.length < 2 ^ 31 := by rw [HFL.out]; omega
        have L1 := Lib.hid fun W (hW : Below wr.heap.size wr W) => sumOwn_c hl hb hf31 hfb (hown.below hW)
        have L2 := Lib.hid fun W (hW : Below wr.heap.size wr W) => sumOwn_c (zeros_len 16) (zeros_lt 16 (by omega)) hf31 hfb (hown.below hW)
        have Hv1 := Lib.hid hv1
        have Hv0 := Lib.hid hv0
        clear he hfm hfd hv1 hv0
        go_wp2
        refine wp_region_below (by kernel_rfl) (by kernel_rfl) ?_
        refine quiet_load rfl rfl rfl C0 Try.ar22 hl ?_
        (try simp only [Act.put, List.setIfInBounds_toArray, List.set_cons_zero, List.set_cons_succ, World.size_alloc, setRow_size, Nat.add_assoc, Nat.reduceAdd])
        refine quiet_move rfl rfl rfl ?_
        (try simp only [Act.put, List.setIfInBounds_toArray, List.set_cons_zero, List.set_cons_succ, World.size_alloc, setRow_size, Nat.add_assoc, Nat.reduceAdd])
        refine quiet_call 11 rfl rfl Try.func11 (by kernel_rfl) (by kernel_rfl) (fun W hQ => L1.out W hQ) ?_
        (try simp only [Act.put, List.setIfInBounds_toArray, List.set_cons_zero, List.set_cons_succ, World.size_alloc, setRow_size, Nat.add_assoc, Nat.reduceAdd])
        refine quiet_load rfl rfl rfl C1 Try.ar22 hps ?_
        (try simp only [Act.put, List.setIfInBounds_toArray, List.set_cons_zero, List.set_cons_succ, World.size_alloc, setRow_size, Nat.add_assoc, Nat.reduceAdd])
        refine quiet_eql rfl rfl rfl rfl eg16 (same16d _ _ (onL_len (zeros_len _) _) Hv1.out) ?_
        (try simp only [Act.put, List.setIfInBounds_toArray, List.set_cons_zero, List.set_cons_succ, World.size_alloc, setRow_size, Nat.add_assoc, Nat.reduceAdd])
        refine quiet_move rfl rfl rfl ?_
        (try simp only [Act.put, List.setIfInBounds_toArray, List.set_cons_zero, List.set_cons_succ, World.size_alloc, setRow_size, Nat.add_assoc, Nat.reduceAdd])
        refine quiet_run (v := .agg (ints .u8 (zeros 16))) rfl (fun W => by kernel_rfl) ?_
        (try simp only [Act.put, List.setIfInBounds_toArray, List.set_cons_zero, List.set_cons_succ, World.size_alloc, setRow_size, Nat.add_assoc, Nat.reduceAdd])
        refine quiet_move rfl rfl rfl ?_
        (try simp only [Act.put, List.setIfInBounds_toArray, List.set_cons_zero, List.set_cons_succ, World.size_alloc, setRow_size, Nat.add_assoc, Nat.reduceAdd])
        refine quiet_call 11 rfl rfl Try.func11 (by kernel_rfl) (by kernel_rfl) (fun W hQ => L2.out W hQ) ?_
        (try simp only [Act.put, List.setIfInBounds_toArray, List.set_cons_zero, List.set_cons_succ, World.size_alloc, setRow_size, Nat.add_assoc, Nat.reduceAdd])
        refine quiet_run (v := .agg (ints .u8 (zeros 16))) rfl (fun W => by kernel_rfl) ?_
        (try simp only [Act.put, List.setIfInBounds_toArray, List.set_cons_zero, List.set_cons_succ, World.size_alloc, setRow_size, Nat.add_assoc, Nat.reduceAdd])
        refine quiet_eql rfl rfl rfl rfl eg16 (same16d _ _ (onL_len (zeros_len _) _) Hv0.out) ?_
        (try simp only [Act.put, List.setIfInBounds_toArray, List.set_cons_zero, List.set_cons_succ, World.size_alloc, setRow_size, Nat.add_assoc, Nat.reduceAdd])
        refine quiet_pickt (by rfl) (by rfl) (by rfl) (by rfl) (by rfl) ?_
        (try simp only [Act.put, List.setIfInBounds_toArray, List.set_cons_zero, List.set_cons_succ, World.size_alloc, setRow_size, Nat.add_assoc, Nat.reduceAdd])
        refine quiet_move rfl rfl rfl ?_
        (try simp only [Act.put, List.setIfInBounds_toArray, List.set_cons_zero, List.set_cons_succ, World.size_alloc, setRow_size, Nat.add_assoc, Nat.reduceAdd])
        refine quiet_call 13 rfl rfl Try.func13 (by kernel_rfl) (by kernel_rfl) (fun W hQ => awake11_c W) ?_
        (try simp only [Act.put, List.setIfInBounds_toArray, List.set_cons_zero, List.set_cons_succ, World.size_alloc, setRow_size, Nat.add_assoc, Nat.reduceAdd])
        refine quiet_pickt (by rfl) (by rfl) (by rfl) (by rfl) (by rfl) ?_
        (try simp only [Act.put, List.setIfInBounds_toArray, List.set_cons_zero, List.set_cons_succ, World.size_alloc, setRow_size, Nat.add_assoc, Nat.reduceAdd])
        refine quiet_assign rfl rfl rfl ?_
        (try simp only [Act.put, List.setIfInBounds_toArray, List.set_cons_zero, List.set_cons_succ, World.size_alloc, setRow_size, Nat.add_assoc, Nat.reduceAdd])
        refine wpQuiet_nil ?_
        intro w' hw'
        go_wp2
        go_ret
        exact ⟨rfl, bCall hbelr hw' hbelr.size⟩
  · have hd0 : decide ((xss.length : Int) > 20) = true := by simp; omega
    go_enter Try.func10, Try.ntmps10
    go_wp2
    go_ret
    exact ⟨rfl, hbel0⟩
end Go.Proofs.Ytckobbddjldflaa
