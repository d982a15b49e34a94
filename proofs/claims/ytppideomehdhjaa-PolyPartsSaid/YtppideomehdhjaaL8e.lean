/- The walk of PolyParts. No condition but that bytes are below 256. -/
import Derived.Test.YtppideomehdhjaaL8b
import Derived.Test.YtppideomehdhjaaFlat
import Derived.Test.YtppideomehdhjaaKit11
namespace Go.Proofs.Ytppideomehdhjaa
set_option linter.unusedSimpArgs false
set_option linter.unusedVariables false
set_option linter.unusedSectionVars false
set_option linter.unusedVariables false
open Go.RowKit
theorem own_blk {w : World} {B e g t : Nat} {k : IntKind} {v : Value} {xs : List Nat} {cs : Array Value} (h : Own w B e k v xs) (hb : Blk w g t cs) (hne : t ≠ e) : v.ownBlock ≠ some g := fun hv => by
  obtain ⟨-, h2⟩ := h
  rcases h2 with ⟨rfl, -⟩ | ⟨g', cap, cur, rfl, q2, q3, -⟩
  · cases hv
  · have : g' = g := Option.some.inj hv
    subst this
    unfold Blk at hb
    rw [hb] at q3
    injection q3 with q3
    injection q3 with _ q3
    exact hne q3
theorem Own.ch {w w' : World} {B e g t : Nat} {k : IntKind} {v : Value} {xs : List Nat} {cs : Array Value} (h : Own w B e k v xs) (hc : Ch g w w') (hb : Blk w g t cs) (hne : t ≠ e) : Own w' B e k v xs := by
  have hn := own_blk h hb hne
  obtain ⟨h1, h2⟩ := h
  refine ⟨h1, ?_⟩
  rcases h2 with h2 | ⟨g', cap, cur, rfl, q2, q3, q4⟩
  · exact .inl h2
  · refine .inr ⟨g', cap, cur, rfl, q2, ?_, q4⟩
    rw [hc.heap g' (Array.getElem?_eq_some_iff.1 q3).1 (fun e1 => hn (by rw [e1]; rfl))]
    exact q3
theorem Blk.grownTy {w w' : World} {B e g t : Nat} {k : IntKind} {v : Value} {xs : List Nat} {cs : Array Value} (hb : Blk w g t cs) (hgr : w.grownBy w' v.ownBlock) (h : Own w B e k v xs) (hne : t ≠ e) : Blk w' g t cs :=
  hb.grown hgr (fun e1 => own_blk h hb hne e1.symm)
theorem Own.lt_ {w : World} {B e : Nat} {k : IntKind} {v : Value} {xs : List Nat} (h : Own w B e k v xs) : ∀ g, v.ownBlock = some g → g < w.heap.size := fun g hg => (World.ownsRow.lt h g hg).2
theorem Own.ge_ {w : World} {B e : Nat} {k : IntKind} {v : Value} {xs : List Nat} (h : Own w B e k v xs) : ∀ g, v.ownBlock = some g → B ≤ g := fun g hg => (World.ownsRow.lt h g hg).1
/-- A row that lies below another one's base stays as the other one grows. -/
theorem Own.stays {w w' : World} {B B' e e' C : Nat} {k k' : IntKind} {v u : Value} {xs ys : List Nat} (h : Own w B e k u xs) (hgr : w.grownBy w' v.ownBlock) (hv : Own w B' e' k' v ys) (hlt : ∀ g, u.ownBlock = some g → g < C) (hC : C ≤ B') : Own w' B e k u xs :=
  h.grownDis hgr fun g h1 h2 => by
    have := hv.ge_ g h1
    have := hlt g h2
    omega
theorem Own.frozen_ {w : World} {B e g n c i : Nat} {k : IntKind} {xs : List Nat} (h : Own w B e k (.slice (some ⟨g, 0, none⟩) n c) xs) : w.frozen? ⟨g, i, none⟩ = false := by
  obtain ⟨-, ⟨h2, -⟩ | ⟨g', cap, cur, q1, q2, q3, -⟩⟩ := h
  · cases h2
  · cases q1
    exact Blk.frozen q3 i
theorem IsSm.only {w w' : World} {g : Nat} {key bs : List Nat} (h : IsSm w g key bs) (he : ∀ t cs, Blk w g t cs → Blk w' g t cs) : IsSm w' g key bs := let ⟨r, h1, h2, h3, h4⟩ := h; ⟨r, h1, h2, h3, he _ _ h4⟩
theorem IsSm.blk {w : World} {g : Nat} {key bs : List Nat} (h : IsSm w g key bs) : ∃ cs, Blk w g 70 cs := let ⟨r, _, _, _, h4⟩ := h; ⟨_, h4⟩
/-- One number of a row of one's own stored. -/
theorem Own.set_ {w : World} {B e g c i n : Nat} {k : IntKind} {xs : List Nat} (h : Own w B e k (.slice (some ⟨g, 0, none⟩) xs.length c) xs) (hi : i < xs.length) : Own (w.setCell ⟨g, i, none⟩ (.int k (n : Int))) B e k (.slice (some ⟨g, 0, none⟩) xs.length c) (xs.set i n) := by
  obtain ⟨h1, h2⟩ := h
  refine ⟨by simp, .inr ?_⟩
  rcases h2 with ⟨h2, -⟩ | ⟨g', cap, cur, q1, q2, q3, q4, q5, q6, q7⟩
  · cases h2
  · cases q1
    refine ⟨g, c, cur.setIfInBounds i (.int k (n : Int)), by rw [List.length_set], q2, heap_setCell_same _ _ _ _ _ _ q3, by rw [List.length_set]; exact q4, q5, by rw [Array.size_setIfInBounds]; exact q6, ?_⟩
    rw [Array.toList_setIfInBounds, List.length_set, List.take_set, q7, ← List.map_set]
theorem Own.stays_set {w : World} {B e g i C : Nat} {k : IntKind} {u x : Value} {xs : List Nat} (h : Own w B e k u xs) (hlt : ∀ g, u.ownBlock = some g → g < C) (hC : C ≤ g) : Own (w.setCell ⟨g, i, none⟩ x) B e k u xs := by
  obtain ⟨h1, h2⟩ := h
  refine ⟨h1, ?_⟩
  rcases h2 with h2 | ⟨g', cap, cur, rfl, q2, q3, q4⟩
  · exact .inl h2
  · refine .inr ⟨g', cap, cur, rfl, q2, ?_, q4⟩
    rw [Below.heap_setCell _ _ _ _ (show g' ≠ g by have := hlt g' rfl; omega)]
    exact q3
theorem Own.ane {w : World} {B e g : Nat} {k : IntKind} {a : Option Addr} {n c : Nat} {xs : List Nat} (h : Own w B e k (.slice a n c) xs) (hg : g < B) : ANe a g xs := fun hn p hp => by
  obtain ⟨g2, c2, q1, q2, q3, -⟩ := h.sl2 hn
  injection q1 with q1
  rw [hp] at q1
  injection q1 with q1
  rw [q1]
  show g2 ≠ g
  omega
set_option maxRecDepth 100000 in
set_option maxHeartbeats 4000000 in
theorem few8_c (xss : List (List Nat)) (a : Option Addr) (c : Nat) (hlm : xss.length ≤ 9223372036854775807) (w : World) (hs0 : SlS w a xss) :
    Calls Try.prog 25 #[.slice a xss.length c] w fun e w' => ∃ b, e = .returned (.bool b) ∧ (b = true → (∀ xs ∈ xss, xs.length ≤ 100) ∧ xss.length ≤ 20) ∧ Below w.heap.size w w' := by
  obtain ⟨n, HN⟩ : ∃ n, Hid (xss.length = n) := ⟨_, Lib.hid rfl⟩
  rw [HN.out] at hlm ⊢
  go_enter Try.func25, Try.ntmps25
  go_wp2
  go_loopw [3] (fun t wr => ∃ i : Nat, i ≤ n ∧ t = .int .i64 (i : Int) ∧ (∀ j, j < i → (xss.getD j []).length ≤ 100) ∧ Below w.heap.size w wr) (fun t wr => n - (intOf t).toNat)
  case atStart => exact ⟨0, by omega, rfl, fun j hj => by omega, Below.refl _ _⟩
  case round =>
    obtain ⟨i, hi, rfl, hall, hbelr⟩ := hrel
    by_cases hlt : i < n
    · have hlx : i < xss.length := by rw [HN.out]; exact hlt
      obtain ⟨g, off, ai, ci, rfl, hg, hc, hsl, hnil⟩ := hs0 i hlx
      have hc1 := (hbelr.cell (p := ⟨g, off + i, none⟩) hg).trans hc
      have hd1 : decide ((i : Int) < (n : Int)) = true := by simp; omega
      have HA : Hid (∀ k, k = (xss.getD i []).length → k ≤ 100 → ∀ j, j < i + 1 → (xss.getD j []).length ≤ 100) := Lib.hid fun k hk h j hj => by
        by_cases e : j = i
        · subst e; omega
        · exact hall j (by omega)
      clear hall hc hsl
      obtain ⟨k, hk⟩ : ∃ k, k = (xss.getD i []).length := ⟨_, rfl⟩
      rw [← hk] at hc1
      have HK := Lib.hid hk
      clear hk
      by_cases h100 : k ≤ 100
      · have hd2 : decide ((k : Int) > 100) = false := by simp; omega
        go_wp2
        exact ⟨⟨i + 1, by omega, by go_num, HA.out k HK.out h100, hbelr⟩, by simp [intOf] <;> omega⟩
      · have hd2 : decide ((k : Int) > 100) = true := by simp; omega
        go_wp2
        go_ret
        exact ⟨false, rfl, (fun h => by cases h), hbelr⟩
    · obtain rfl : i = n := by omega
      have hd1 : decide ((i : Int) < (i : Int)) = false := by simp
      have hall' : ∀ xs ∈ xss, xs.length ≤ 100 := fun xs hxs => by
        obtain ⟨j, hj, rfl⟩ := List.mem_iff_getElem.1 hxs
        have := hall j (by rw [← HN.out]; exact hj)
        rwa [List.getD_eq_getElem?_getD, List.getElem?_eq_getElem hj] at this
      have HALL := Lib.hid hall'
      clear hall hall'
      go_wp2
      go_ret
      refine ⟨_, rfl, fun h => ⟨HALL.out, ?_⟩, hbelr⟩
      simp at h
      omega
theorem hashOwn8 {key xs : List Nat} (hl : key.length = 16) (hb : ∀ x ∈ key, x < 256) (hbb : ∀ x ∈ xs, x < 256) (hlen : xs.length < 2 ^ 31) {W : World} {B : Nat} {v : Value} (ho : Own W B 5 .u8 v xs) :
    Calls Try.prog 18 #[.agg (ints .u8 key), v] W fun e w' => e = .returned (.agg (ints .u8 (hashP key xs))) ∧ Below W.heap.size W w' := by
  obtain ⟨a, c, rfl, hsl, hc, -⟩ := ho.sl
  exact hash8_c key xs hl hb hbb hlen a c hc W hsl
theorem xorff (x : Nat) (h : x < 256) : bits BinOp.xor IntKind.u8 (x : Int) 255 = ((x ^^^ 255 : Nat) : Int) ∧ x ^^^ 255 < 256 := ⟨u8_xor_nat x 255 h (by omega), Nat.xor_lt_two_pow (n := 8) h (by omega)⟩
set_option maxRecDepth 100000 in
set_option maxHeartbeats 16000000 in
theorem polyParts_c (key : List Nat) (xss : List (List Nat)) (a : Option Addr) (c : Nat) (hl : key.length = 16) (hb : ∀ x ∈ key, x < 2 ^ 8) (hx : ∀ xs ∈ xss, ∀ x ∈ xs, x < 256) (hlm : xss.length ≤ 9223372036854775807) (w : World) (hs0 : SlS w a xss) :
    Calls Try.prog 5 #[.agg (ints .u8 key), .slice a xss.length c] w fun e w' => e = .returned (.bool true) ∧ Below w.heap.size w w' := by
  have B0 := Blk.new w 22 (ints .u8 key)
  have hbel0 := (Below.refl w.heap.size w).alloc (Nat.le_refl _) (.cells (ints .u8 key) 22)
  obtain ⟨n, HN⟩ : ∃ n, Hid (xss.length = n) := ⟨_, Lib.hid rfl⟩
  have hfew := fun W h => few8_c xss a c hlm W h
  rw [HN.out] at hfew ⊢
  go_enter Try.func5, Try.ntmps5
  go_wp2_with fail
  generalize (w.alloc (.cells (ints .u8 key) 22)) = w1 at *
  refine (hfew _ (hs0.below hbel0)).mono ?_
  rintro e w2 ⟨bb, rfl, hbb, hb2⟩
  have B2 := B0.below' hb2
  have hbel2 := bCall hbel0 hb2 hbel0.size
  have hl2 := B2.lt
  cases bb
  · go_wp2
    go_ret
    exact ⟨rfl, hbel2⟩
  · obtain ⟨h100, h20⟩ := hbb rfl
    clear hbb B0 hbel0 hb2 hfew
    go_wp2_with (refine wpList_load_ints rfl 22 _ rfl w.heap.size rfl B2 Try.ar22 hl ?_; (try simp only [Act.put, List.setIfInBounds_toArray, List.set_cons_zero, List.set_cons_succ, World.size_alloc, setRow_size, Nat.add_assoc, Nat.reduceAdd]))
    refine (new8_c key hl hb _).mono ?_
    rintro e w3 ⟨g, rfl, hg, hS3, hb3⟩
    have B3 := B2.below' hb3
    have hbel3 := bCall hbel2 hb3 hbel2.size
    have hS3l := hS3.lt
    have hwg : w.heap.size < g := by omega
    clear B2 hbel2 hb3
    go_wp2_with fail
    obtain ⟨B, HB⟩ : ∃ B, Hid (B = w3.heap.size) := ⟨_, Lib.hid rfl⟩
    rw [← HB.out] at hS3l
    have hwB : w.heap.size ≤ B := by omega
    go_loopw [6, 7] (fun v t wr => ∃ i : Nat, i ≤ n ∧ t = .int .i64 (i : Int) ∧ Own wr B 5 .u8 v ((xss.take i).flatten) ∧ ((xss.take i).flatten).length ≤ 100 * i ∧ B ≤ wr.heap.size ∧ Blk wr w.heap.size 22 (ints .u8 key) ∧ IsSm wr g key ((xss.take i).flatten) ∧ Below w.heap.size w wr) (fun v t wr => n - (intOf t).toNat)
    case atStart => exact ⟨0, by omega, rfl, Own.nil _ _ _ _, by simp, by rw [HB.out]; omega, B3, hS3, hbel3⟩
    case round =>
      obtain ⟨i, hi, rfl, hown, hal, hBr, C0, hS, hbelr⟩ := hrel
      clear B3 hS3 hbel3 HB
      by_cases hlt : i < n
      · have hlx : i < xss.length := by rw [HN.out]; exact hlt
        obtain ⟨gl, off, ai, ci, rfl, hgl, hcl, hsl, hnil⟩ := hs0 i hlx
        have hd1 : decide ((i : Int) < (n : Int)) = true := by simp; omega
        have hcl1 := (hbelr.cell (p := ⟨gl, off + i, none⟩) hgl).trans hcl
        have Hfs := Lib.hid (flat_succ hlx)
        have hx8 := getD_prop (p := fun l => ∀ x ∈ l, x < 256) hx hlx
        have hx100 := getD_prop (p := fun l => l.length ≤ 100) h100 hlx
        have hA8 : ∀ x ∈ (xss.take i).flatten, x < 256 := flat_lt fun xs h => hx xs (List.mem_of_mem_take h)
        have HCL := Lib.hid hcl
        clear hcl
        obtain ⟨b, Hb⟩ : ∃ b, Hid (xss.getD i [] = b) := ⟨_, Lib.hid rfl⟩
        obtain ⟨A, HA⟩ : ∃ A, Hid ((xss.take i).flatten = A) := ⟨_, Lib.hid rfl⟩
        rw [HA.out] at hown hal hS hA8 Hfs
        rw [Hb.out] at Hfs hx8 hx100 hsl hcl1 HCL
        have hA31 : A.length < 2 ^ 31 := by omega
        have hb31 : b.length < 2 ^ 31 := by omega
        have hA8' : ∀ x ∈ A ++ b, x < 256 := fun x hx => (List.mem_append.1 hx).elim (hA8 x) (hx8 x)
        have hAb31 : (A ++ b).length < 2 ^ 31 := by rw [List.length_append]; omega
        have hlno : ([] : List Nat).length + b.length < 2 ^ 40 := by simp; omega
        have hlna : A.length + b.length < 2 ^ 40 := by omega
        obtain ⟨Bo, HBo⟩ : ∃ Bo, Hid (wr.heap.size = Bo) := ⟨_, Lib.hid rfl⟩
        have hBBo : B ≤ Bo := by rw [← HBo.out]; exact hBr
        have hulo := hown.lt_
        rw [HBo.out] at hulo
        have E := Own.empty wr Bo (Nat.le_of_eq HBo.out.symm)
        have hown1 := hown.alloc (.cells #[] 5)
        have C1 := C0.alloc (.cells #[] 5)
        have hb1 := (Below.refl wr.heap.size wr).alloc (Nat.le_refl _) (.cells #[] 5)
        have hS1 := hS.below hb1
        have hbel1 := hbelr.alloc hbelr.size (.cells #[] 5)
        have hcl2 := (hb1.cell (p := ⟨gl, off + i, none⟩) (Nat.lt_of_lt_of_le hgl hbelr.size)).trans hcl1
        have hslA := hsl.below hbel1
        have hz1 : Bo ≤ (wr.alloc (.cells #[] 5)).heap.size := by rw [World.size_alloc, HBo.out]; omega
        go_wp2_with (refine wpList_append_sl (zs := b) rfl rfl Try.underlying30 Try.inf8 rfl (by omega) rfl E rfl rfl hnil hslA hlno hz1 ?_; intro v2 w2 hown2 hgr; (try simp only [Act.put, List.setIfInBounds_toArray, List.set_cons_zero, List.set_cons_succ, World.size_alloc, setRow_size, Nat.add_assoc, Nat.reduceAdd]))
        have hgB : g < Bo := by omega
        have hS2 := hS1.only fun _ _ h => h.grownOwn hgr E hgB
        have C2 := C1.grownOwn hgr E (by omega)
        have hownA2 := hown1.stays hgr E hulo (Nat.le_refl Bo)
        have hbel2 := bGrown hbel1 hgr (by simp; omega) E (by omega)
        have hgrs := hgr.size
        rw [World.size_alloc, HBo.out] at hgrs
        rw [List.nil_append] at hown2
        obtain ⟨av, cv, rfl, hslv, hcv, -⟩ := hown2.sl
        have hane := hown2.ane hgB
        clear hown hS C0 hbelr E hown1 C1 hb1 hS1 hbel1 hcl2 hslA hz1 hgr hcl1
        refine (write8_c g key A b hx8 hA31 hb31 av cv hcv hane _ hS2 hslv).mono ?_
        rintro e w3' ⟨rfl, hS3, hch3⟩
        obtain ⟨cs2, hSb2⟩ := hS2.blk
        have hownA3 := hownA2.ch hch3 hSb2 (by decide)
        have hown3 := hown2.ch hch3 hSb2 (by decide)
        have C3 := hch3.blk C2 (by omega)
        have hbel3 := hch3.below hbel2 (by omega) hbel2.size
        have hB3 : B ≤ w3'.heap.size := by
          have h1 := hch3.size
          have h2 := hgrs
          omega
        clear hgrs
        clear hown2 hownA2 C2 hbel2 hS2 hslv hch3 hSb2 hane hcv
        have Hbl : Hid (b.length = b.length) := Lib.hid rfl
        obtain ⟨N, HNb⟩ : ∃ N, Hid (b.length = N) := ⟨_, Lib.hid rfl⟩
        rw [HNb.out] at hx100 hb31 hown3 HCL ⊢
        go_wp2_with fail
        go_loopw [9] (fun t wx => ∃ (k : Nat) (ys : List Nat), k ≤ N ∧ t = .int .i64 (k : Int) ∧ ys.length = N ∧ (∀ y ∈ ys, y < 256) ∧ Own wx Bo 5 .u8 (.slice av N cv) ys ∧ Own wx B 5 .u8 u6 A ∧ B ≤ wx.heap.size ∧ Blk wx w.heap.size 22 (ints .u8 key) ∧ IsSm wx g key (A ++ b) ∧ Below w.heap.size w wx) (fun t wx => N - (intOf t).toNat)
        case atStart => exact ⟨0, b, by omega, rfl, HNb.out, hx8, hown3, hownA3, hB3, C3, hS3, hbel3⟩
        case round =>
          obtain ⟨k, ys, hk, rfl, hyl, hy8, hownv, hownA, hB4, C4, hS4, hbel4⟩ := hrel
          clear hown3 hownA3 C3 hS3 hbel3
          by_cases hkn : k < N
          · obtain ⟨g2, c2, q1, hg2, hg2l, hslv, -⟩ := hownv.sl2 (by rintro rfl; simp at hyl; omega)
            injection q1 with q1 q1' q1''
            subst q1
            clear q1' q1''
            have c0 := hslv.eq (i := k) (by omega)
            rw [Nat.zero_add] at c0
            have z0 := hownv.frozen_ (i := k)
            have hd2 : decide ((k : Int) < (N : Int)) = true := by simp; omega
            have vy := getD_bound hy8 (by omega) k
            have hon := Own.set_ (i := k) (n := ys.getD k 0 ^^^ 255) (by rw [hyl]; exact hownv) (by omega)
            have hyb : ∀ y ∈ ys.set k (ys.getD k 0 ^^^ 255), y < 256 := fun y hy => by
              rcases List.mem_or_eq_of_mem_set hy with h | h
              · exact hy8 y h
              · rw [h]; exact (xorff _ vy).2
            obtain ⟨ys', HY⟩ : ∃ ys', Hid (ys.set k (ys.getD k 0 ^^^ 255) = ys') := ⟨_, Lib.hid rfl⟩
            have hyl' : ys'.length = N := by rw [← HY.out, List.length_set, hyl]
            rw [HY.out] at hon hyb
            rw [hyl] at hon
            have HON := Lib.hid hon
            have HX := Lib.hid (xorff _ vy).1
            clear hon
            have hul2 := hownA.stays_set (i := k) (x := .int .u8 ((ys.getD k 0 ^^^ 255 : Nat) : Int)) hulo hg2
            have HU := Lib.hid hul2
            have HSS := Lib.hid (hS4.only fun _ _ h => h.far (p := ⟨g2, k, none⟩) (show g ≠ g2 by omega) (.int .u8 ((ys.getD k 0 ^^^ 255 : Nat) : Int)))
            have HCC := Lib.hid (C4.far (p := ⟨g2, k, none⟩) (show w.heap.size ≠ g2 by omega) (.int .u8 ((ys.getD k 0 ^^^ 255 : Nat) : Int)))
            have HBB := Lib.hid (hbel4.setCell (p := ⟨g2, k, none⟩) (show w.heap.size ≤ g2 by omega) (.int .u8 ((ys.getD k 0 ^^^ 255 : Nat) : Int)))
            clear hul2 hownv hownA hS4 C4 hbel4 hslv
            generalize ys.getD k 0 = y at *
            go_wp2
            rw [HX.out]
            exact ⟨⟨k + 1, ys', by omega, by go_num, hyl', hyb, HON.out, HU.out, by simp; exact hB4, HCC.out, HSS.out, HBB.out⟩, by simp [intOf] <;> omega⟩
          · obtain rfl : k = N := by omega
            have hd2 : decide ((k : Int) < (k : Int)) = false := by simp
            have hcl4 := (hbel4.cell (p := ⟨gl, off + i, none⟩) hgl).trans HCL.out
            have hsl4 := hsl.below hbel4
            clear hownv
            go_wp2_with (refine wpList_append_sl (zs := b) rfl rfl Try.underlying30 Try.inf8 rfl (by omega) rfl hownA rfl HNb.out.symm hnil hsl4 hlna hB4 ?_; intro v6 w6 hown6 hgr6; (try simp only [Act.put, List.setIfInBounds_toArray, List.set_cons_zero, List.set_cons_succ, World.size_alloc, setRow_size, Nat.add_assoc, Nat.reduceAdd]))
            have hS6 := hS4.only fun _ _ h => h.grownOwn hgr6 hownA (by omega)
            have C6 := C4.grownOwn hgr6 hownA (by omega)
            have hbel6 := bGrown hbel4 hgr6 (by have := hbel4.size; omega) hownA hwB
            have hB6 := Nat.le_trans hB4 hgr6.size
            have hAl : (A ++ b).length ≤ 100 * (i + 1) := by rw [List.length_append, HNb.out]; omega
            have LH := Lib.hid fun W (hW : Below w6.heap.size w6 W) => hashOwn8 hl hb hA8' hAb31 (hown6.below hW)
            have HLOW := Lib.hid fun W => low_c (numOf (polyA key (A ++ b))) (numOf_len _) (lt32 _) W
            have HLE := Lib.hid (hashP_low key (A ++ b))
            rw [HLE.out] at HLOW
            clear hownA hS4 C4 hbel4 hgr6 hB4 hcl4 hsl4 hyl hy8
            refine wp_region_below (by kernel_rfl) (by kernel_rfl) ?_
            refine quiet_move rfl rfl rfl ?_
            (try simp only [Act.put, List.setIfInBounds_toArray, List.set_cons_zero, List.set_cons_succ, World.size_alloc, setRow_size, Nat.add_assoc, Nat.reduceAdd])
            refine quiet_call 22 rfl rfl Try.func22 (by kernel_rfl) (by kernel_rfl) (fun W hQ => tag8_c g key (A ++ b) hA8' W (hS6.below hQ)) ?_
            (try simp only [Act.put, List.setIfInBounds_toArray, List.set_cons_zero, List.set_cons_succ, World.size_alloc, setRow_size, Nat.add_assoc, Nat.reduceAdd])
            refine quiet_load rfl rfl rfl C6 Try.ar22 hl ?_
            (try simp only [Act.put, List.setIfInBounds_toArray, List.set_cons_zero, List.set_cons_succ, World.size_alloc, setRow_size, Nat.add_assoc, Nat.reduceAdd])
            refine quiet_move rfl rfl rfl ?_
            (try simp only [Act.put, List.setIfInBounds_toArray, List.set_cons_zero, List.set_cons_succ, World.size_alloc, setRow_size, Nat.add_assoc, Nat.reduceAdd])
            refine quiet_call 18 rfl rfl Try.func18 (by kernel_rfl) (by kernel_rfl) (fun W hQ => LH.out W hQ) ?_
            (try simp only [Act.put, List.setIfInBounds_toArray, List.set_cons_zero, List.set_cons_succ, World.size_alloc, setRow_size, Nat.add_assoc, Nat.reduceAdd])
            refine quiet_neq rfl rfl rfl rfl Try.eg8b (b8ne _ _ (hashP_len _ _) rfl) ?_
            (try simp only [Act.put, List.setIfInBounds_toArray, List.set_cons_zero, List.set_cons_succ, World.size_alloc, setRow_size, Nat.add_assoc, Nat.reduceAdd])
            refine quiet_move rfl rfl rfl ?_
            (try simp only [Act.put, List.setIfInBounds_toArray, List.set_cons_zero, List.set_cons_succ, World.size_alloc, setRow_size, Nat.add_assoc, Nat.reduceAdd])
            refine quiet_move rfl rfl rfl ?_
            (try simp only [Act.put, List.setIfInBounds_toArray, List.set_cons_zero, List.set_cons_succ, World.size_alloc, setRow_size, Nat.add_assoc, Nat.reduceAdd])
            refine quiet_call 20 rfl rfl Try.func20 (by kernel_rfl) (by kernel_rfl) (fun W hQ => value8_c g key (A ++ b) hA8' W (hS6.below hQ)) ?_
            (try simp only [Act.put, List.setIfInBounds_toArray, List.set_cons_zero, List.set_cons_succ, World.size_alloc, setRow_size, Nat.add_assoc, Nat.reduceAdd])
            refine quiet_call 26 rfl rfl Try.func26 (by kernel_rfl) (by kernel_rfl) (fun W hQ => HLOW.out W) ?_
            (try simp only [Act.put, List.setIfInBounds_toArray, List.set_cons_zero, List.set_cons_succ, World.size_alloc, setRow_size, Nat.add_assoc, Nat.reduceAdd])
            refine quiet_move rfl rfl rfl ?_
            (try simp only [Act.put, List.setIfInBounds_toArray, List.set_cons_zero, List.set_cons_succ, World.size_alloc, setRow_size, Nat.add_assoc, Nat.reduceAdd])
            refine quiet_call 22 rfl rfl Try.func22 (by kernel_rfl) (by kernel_rfl) (fun W hQ => tag8_c g key (A ++ b) hA8' W (hS6.below hQ)) ?_
            (try simp only [Act.put, List.setIfInBounds_toArray, List.set_cons_zero, List.set_cons_succ, World.size_alloc, setRow_size, Nat.add_assoc, Nat.reduceAdd])
            refine quiet_neq rfl rfl rfl rfl Try.eg8b (b8ne _ _ (hashP_len _ _) rfl) ?_
            (try simp only [Act.put, List.setIfInBounds_toArray, List.set_cons_zero, List.set_cons_succ, World.size_alloc, setRow_size, Nat.add_assoc, Nat.reduceAdd])
            refine quiet_pickf (by rfl) (by rfl) (by rfl) (by rfl) (by rfl) ?_
            (try simp only [Act.put, List.setIfInBounds_toArray, List.set_cons_zero, List.set_cons_succ, World.size_alloc, setRow_size, Nat.add_assoc, Nat.reduceAdd])
            refine wpQuiet_nil ?_
            intro w' hw'
            have hown7 := hown6.below hw'
            have C7 := C6.below' hw'
            have hS7 := hS6.below hw'
            have hbel7 := bCall hbel6 hw' hbel6.size
            have hB7 := Nat.le_trans hB6 hw'.size
            clear hown6 C6 hS6 hbel6 LH HLOW
            go_wp2
            exact ⟨⟨i + 1, by omega, by go_num, by rw [Hfs.out]; exact hown7, by rw [Hfs.out]; exact hAl, hB7, C7, by rw [Hfs.out]; exact hS7, hbel7⟩, by simp [intOf] <;> omega⟩
      · obtain rfl : i = n := by omega
        have hd1 : decide ((i : Int) < (i : Int)) = false := by simp
        have hne := fun W => b8eq (zeros 16) (zeros 16) (zeros_len _) rfl W
        have hn5 := fun W => n8eq (zeros 5) (zeros 5) (zeros_len _) rfl W
        have Hne : Hid (∀ W, (binOp .eql 22 (.agg (ints .u8 (zeros 16))) (.agg #[.int .u8 0, .int .u8 0, .int .u8 0, .int .u8 0, .int .u8 0, .int .u8 0, .int .u8 0, .int .u8 0, .int .u8 0, .int .u8 0, .int .u8 0, .int .u8 0, .int .u8 0, .int .u8 0, .int .u8 0, .int .u8 0])).run Try.prog W = .ok (.bool true) W) := Lib.hid fun W => by
          have := hne W
          rw [show (#[.int .u8 0, .int .u8 0, .int .u8 0, .int .u8 0, .int .u8 0, .int .u8 0, .int .u8 0, .int .u8 0, .int .u8 0, .int .u8 0, .int .u8 0, .int .u8 0, .int .u8 0, .int .u8 0, .int .u8 0, .int .u8 0] : Array Value) = ints .u8 (zeros 16) from z8_c.symm]
          exact this
        have Hn5 : Hid (∀ W, (binOp .eql 44 (.agg (ints .u32 (zeros 5))) (.agg #[.int .u32 0, .int .u32 0, .int .u32 0, .int .u32 0, .int .u32 0])).run Try.prog W = .ok (.bool true) W) := Lib.hid hn5
        clear hne hn5
        go_wp2_with fail
        refine (writeNil8_c _ _).mono ?_
        rintro e w4 ⟨rfl, hb4⟩
        have hbel4 := bCall hbelr hb4 hbelr.size
        go_wp2_with fail
        refine (tagNil8_c _).mono ?_
        rintro e w5 ⟨rfl, hb5⟩
        have hbel5 := bCall hbel4 hb5 hbel4.size
        go_wp2_with (refine wpList_valG (v := .bool true) rfl (run_eqlOp rfl rfl rfl Try.eg8b Hne.out) ?_; (try simp only [Act.put, List.setIfInBounds_toArray, List.set_cons_zero, List.set_cons_succ, World.size_alloc, setRow_size, Nat.add_assoc, Nat.reduceAdd]))
        refine (valueNil8_c _).mono ?_
        rintro e w6 ⟨rfl, hb6⟩
        have hbel6 := bCall hbel5 hb6 hbel5.size
        go_wp2_with (refine wpList_valG (v := .bool true) rfl (run_eqlOp rfl rfl rfl Try.eg8n Hn5.out) ?_; (try simp only [Act.put, List.setIfInBounds_toArray, List.set_cons_zero, List.set_cons_succ, World.size_alloc, setRow_size, Nat.add_assoc, Nat.reduceAdd]))
        refine (awake8_c _).mono ?_
        rintro e w7 ⟨rfl, hb7⟩
        have hbel7 := bCall hbel6 hb7 hbel6.size
        go_wp2
        go_ret
        exact ⟨rfl, hbel7⟩
end Go.Proofs.Ytppideomehdhjaa
