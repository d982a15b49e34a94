/- BLAKE2b's Sum, of a hash that holds at most one block. No condition but that words are below 2^64 and bytes below 256. -/
import Derived.Test.YtaiffkajkbiidaaGreatDoorW6f
namespace Go.Proofs.YtaiffkajkbiidaaGreatDoor
set_option linter.unusedSimpArgs false
set_option linter.unusedVariables false
set_option linter.unusedSectionVars false
set_option linter.unusedVariables false
open Go.RowKit
section
variable {P : Program} {o : Oper} {a : Act} {w : World}
theorem run_loadBlkH {T g n t : Nat} {x : Operand} {cs : Array Value} (ho : o.op = .load T x) (hx : a.eval x = .pointer (some ⟨g, 0, none⟩)) (hb : Blk w g t cs) (ha : IsArr P T n) (hl : cs.size = n) :
    (execOp a.eval o).run P w = .ok (.value (.agg cs)) w := by
  obtain ⟨⟨d, h1, hd⟩, h2⟩ := ha
  unfold execOp
  simp only [ho, hx, Instr.loadAt, Instr.sureAddr, Sem.run_bind, Sem.run_pure, Result.andThen_ok, run_loadVar_row w g t T _ _ _ hb h1 (by cases d <;> first | rfl | cases hd) (by rw [hl]; exact h2)]
end
theorem Tryz.arH : IsArr Tryz.prog 151 12 := isStr Tryz.underlying151 (by kernel_rfl)
def zH : Array Value := (vals .u64 (zeros 8) ++ vals .u64 [0, 0] ++ [Value.slice none 0 0, Value.int .i64 0]).toArray
theorem zH_run (w : World) : (Instr.alloc 151 true (.tuple #[])).run Tryz.prog w = .ok (.pointer (some ⟨w.heap.size, 0, none⟩)) (w.alloc (.cells zH 151)) := by kernel_rfl
theorem run_allocH {o : Oper} {a : Act} {w : World} (ho : o.op = .alloc 151) : (execOp a.eval o).run Tryz.prog w = .ok (.value (.pointer (some ⟨w.heap.size, 0, none⟩))) (w.alloc (.cells zH 151)) := by
  unfold execOp
  simp only [ho, Sem.run_bind, zH_run, Result.andThen_ok]
  rfl
theorem zH_size : zH.size = 12 := rfl
def digK (Z : List Nat) (k : Nat) : List Nat := ((Z.take k).map fun n => dig 256 8 n).flatten
theorem digK_len (Z : List Nat) : ∀ k, k ≤ Z.length → (digK Z k).length = 8 * k
  | 0, _ => rfl
  | k + 1, h => by
    have h1 := digK_len Z k (by omega)
    unfold digK at h1 ⊢
    rw [take_snoc (v := Z.getD k 0) (by omega) rfl, List.map_append, List.flatten_append, List.length_append, h1]
    simp [dig_length]
    omega
theorem digK_succ {Z : List Nat} {k : Nat} (h : k < Z.length) : digK Z (k + 1) = digK Z k ++ dig 256 8 (Z.getD k 0) := by
  unfold digK
  rw [take_snoc (v := Z.getD k 0) h rfl, List.map_append, List.flatten_append]
  simp
def sumH (hs b : List Nat) : List Nat := (digK (compN hs (b ++ zeros (128 - b.length)) b.length 0) 8).take 48
theorem stK_lt {m v row : List Nat} (hv : ∀ x ∈ v, x < 18446744073709551616) (hst : ∀ (v : List Nat) (i y a b : Nat), (∀ x ∈ v, x < 18446744073709551616) → ∀ x ∈ stN v i y a b, x < 18446744073709551616) : ∀ k, ∀ x ∈ stK m v row k, x < 18446744073709551616
  | 0 => hv
  | k + 1 => by unfold stK; exact hst _ _ _ _ _ (stK_lt hv hst k)
theorem half1_lt {v : List Nat} (a b x : Nat) (hv : ∀ x ∈ v, x < 18446744073709551616) : ∀ y ∈ half1 v a b x, y < 18446744073709551616 := u64_set hv (Nat.mod_lt _ (by decide))
theorem half3_lt {v : List Nat} (a b : Nat) (hv : ∀ x ∈ v, x < 18446744073709551616) : ∀ y ∈ half3 v a b, y < 18446744073709551616 := u64_set hv (Nat.mod_lt _ (by decide))
theorem half2_lt {v : List Nat} (a b x : Nat) (hv : ∀ x ∈ v, x < 18446744073709551616) : ∀ y ∈ half2 v a b x, y < 18446744073709551616 := u64_set hv (rotW_lt (Nat.xor_lt_two_pow (n := 64) (u64_getD hv a) (u64_getD hv b)))
theorem stN_lt (v : List Nat) (i y a b : Nat) (hv : ∀ x ∈ v, x < 18446744073709551616) : ∀ x ∈ stN v i y a b, x < 18446744073709551616 := by
  unfold stN halfN
  exact half2_lt _ _ _ (half3_lt _ _ (half2_lt _ _ _ (half1_lt _ _ _ (half2_lt _ _ _ (half3_lt _ _ (half2_lt _ _ _ (half1_lt _ _ _ hv)))))))
theorem rdB_lt {m v : List Nat} (hv : ∀ x ∈ v, x < 18446744073709551616) : ∀ r, ∀ x ∈ rdB m v r, x < 18446744073709551616
  | 0 => hv
  | r + 1 => by unfold rdB; exact stK_lt (rdB_lt hv r) stN_lt 8
theorem compN_lt {h b : List Nat} {c0 c1 : Nat} (hh : ∀ x ∈ h, x < 18446744073709551616) (h0 : c0 < 18446744073709551616) (h1 : c1 < 18446744073709551616) : ∀ x ∈ compN h b c0 c1, x < 18446744073709551616 := by
  unfold compN
  refine foK_lt hh (rdB_lt ?_ 12) 8
  have hv := vK_lt hh 8
  generalize vK h 8 = v at hv
  unfold vT
  exact u64_set (u64_set (u64_set hv (Nat.xor_lt_two_pow (n := 64) (u64_getD hv 12) h0)) (Nat.xor_lt_two_pow (n := 64) (u64_getD hv 13) h1)) (Nat.xor_lt_two_pow (n := 64) (by decide) (u64_getD hv 14))
set_option maxRecDepth 100000 in
set_option maxHeartbeats 40000000 in
theorem hsum_c (g : Nat) (hs b : List Nat) (a : Option Addr) (c : Nat) (hh : ∀ x ∈ hs, x < 18446744073709551616) (hbl : b.length ≤ 128) (hbb : ∀ x ∈ b, x < 256) (w : World) (hG : GlB w) (hB : HB w g hs 0 0 (.slice a b.length c) 48) (hS : Sl w a .u8 b) :
    Calls Tryz.prog 55 #[.pointer (some ⟨g, 0, none⟩)] w fun e w' => ∃ a2 c2, e = .returned (.slice a2 48 c2) ∧ Sl w' a2 .u8 (sumH hs b) ∧ 48 ≤ c2 ∧ Below w.heap.size w w' := by
  have hB0 := hB.blk
  have hsz : (vals .u64 hs ++ vals .u64 [0, 0] ++ [Value.slice a b.length c, Value.int .i64 ((48 : Nat) : Int)]).toArray.size = 12 := by
    rw [List.size_toArray, List.length_append, List.length_append, hB.vlen, vals_len]; rfl
  have hone : (vals .u64 hs ++ vals .u64 [0, 0] ++ [Value.slice a b.length c, Value.int .i64 ((48 : Nat) : Int)]).toArray.all (·.oneCell') = true := by
    rw [all_oneCell_toArray]
    intro v hv
    rcases List.mem_append.1 hv with hv | hv
    · rcases List.mem_append.1 hv with hv | hv <;> exact vals_one _ _ v hv
    · simp only [List.mem_cons, List.not_mem_nil, or_false] at hv
      rcases hv with rfl | rfl <;> rfl
  have hlh := hB.len
  obtain ⟨cs, hcs⟩ : ∃ cs, Hid ((vals .u64 hs ++ vals .u64 [0, 0] ++ [Value.slice a b.length c, Value.int .i64 ((48 : Nat) : Int)]).toArray = cs) := ⟨_, Lib.hid rfl⟩
  rw [hcs.out] at hB0 hsz hone
  have X1 := (Blk.new w 151 zH)
  have X2 := X1.row cs
  have hbel := bSetRow ((Below.refl w.heap.size w).alloc (Nat.le_refl _) (.cells zH 151)) (Nat.le_refl _) cs
  have hgl := hG.lt
  go_enter Tryz.func55, Tryz.ntmps55
  go_wp2_with (first
    | (refine wpList_valG rfl (run_loadBlkH rfl rfl hB0 Tryz.arH hsz) ?_; (try simp only [Act.put, List.setIfInBounds_toArray, List.set_cons_zero, List.set_cons_succ, World.size_alloc, setRow_size, Nat.add_assoc, Nat.reduceAdd]))
    | (refine wpList_runW rfl (run_allocH rfl) ?_; (try simp only [Act.put, List.setIfInBounds_toArray, List.set_cons_zero, List.set_cons_succ, World.size_alloc, setRow_size, Nat.add_assoc, Nat.reduceAdd]))
    | (refine wpList_store_row rfl 151 _ _ rfl _ _ rfl rfl _ _ X1 (by rw [hsz]; exact Tryz.arH.2) (by rw [hsz]; rfl) hone ?_
       generalize ((w.alloc (.cells zH 151)).setRow w.heap.size cs) = w1 at *
       have B1 : HB w1 w.heap.size hs 0 0 (.slice a b.length c) 48 := ⟨by rw [hcs.out]; exact X2, hlh⟩
       have k0 := B1.cV
       (try simp only [Act.put, List.setIfInBounds_toArray, List.set_cons_zero, List.set_cons_succ, World.size_alloc, setRow_size, Nat.add_assoc, Nat.reduceAdd])))
  have S1 := hS.below hbel
  refine (hblock_c w.heap.size hs b (.slice a b.length c) 48 a c hh hbl hbb (by omega) (by omega) w1 (hG.below hbel) B1 S1).mono ?_
  rintro e w2 ⟨rfl, B2, hc2⟩
  have hbel2 := hc2.below hbel (Nat.le_refl _) hbel.size
  obtain ⟨Z, HZ⟩ : ∃ Z, Hid (compN hs (b ++ zeros (128 - b.length)) b.length 0 = Z) := ⟨_, Lib.hid rfl⟩
  have hZb := compN_lt (h := hs) (b := b ++ zeros (128 - b.length)) (c0 := b.length) (c1 := 0) hh (by omega) (by decide)
  have HS : Hid (sumH hs b = (digK Z 8).take 48) := Lib.hid (by unfold sumH; rw [HZ.out])
  rw [HZ.out] at B2 hZb
  have hZl := B2.len
  obtain ⟨i8, hi8, hz0, hz1, hz2⟩ := info_parts Tryz.inf8
  have hsz2 := hbel2.size
  clear HZ B1 k0 X1 X2 S1 hbel hB0 hB hS hcs hone hsz
  go_wp2_with (first
    | (refine wpList_make_own _ rfl _ _ 23 rfl w.heap.size 5 i8 (.int .u8 0) 1 Tryz.underlying23 hi8 hz0 hz1 .i64 .i64 _ 64 rfl rfl rfl (by rw [hz2]; decide) (by decide) hsz2 ?_
       intro w3 ho hgr
       have B3 : HB w3 w.heap.size Z b.length 0 (.slice a b.length c) 48 := ⟨B2.blk.grown hgr (fun h => by cases h), B2.len⟩
       have r3 := B3.rH
       have hbel3 := hbel2.grown hgr hsz2 (fun k hk => by cases hk)
       have O3 : Own w3 w.heap.size 5 .u8 (.slice (some ⟨w2.heap.size, 0, none⟩) 0 64) (digK Z 0) := ho
       clear ho hgr hbel2 B2
       (try simp only [Act.put, List.setIfInBounds_toArray, List.set_cons_zero, List.set_cons_succ, World.size_alloc, setRow_size, Nat.add_assoc, Nat.reduceAdd]))
    | (refine wpList_valG rfl (run_loadRange rfl rfl r3 Tryz.ar6147 hZl) ?_; (try simp only [Act.put, List.setIfInBounds_toArray, List.set_cons_zero, List.set_cons_succ, World.size_alloc, setRow_size, Nat.add_assoc, Nat.reduceAdd])))
  clear r3 hsz2
  go_loopw [4, 22] (fun s t wr => ∃ k : Nat, k ≤ 8 ∧ t = .int .i64 (k : Int) ∧ HB wr w.heap.size Z b.length 0 (.slice a b.length c) 48 ∧ Own wr w.heap.size 5 .u8 s (digK Z k) ∧ Below w.heap.size w wr) (fun s t wr => 8 - (intOf t).toNat)
  case atStart => exact ⟨0, by omega, rfl, B3, O3, hbel3⟩
  case round =>
    clear B3 O3 hbel3
    obtain ⟨k, hk, rfl, B, O, hbel⟩ := hrel
    by_cases hlt : k < 8
    · have hd : decide ((k : Int) < 8) = true := by simp; omega
      have hix := run_index_ints Tryz.underlying147 Tryz.underlying106 Tryz.s1106 hZl hlt
      have hds := digK_succ (Z := Z) (k := k) (by omega)
      have hxb := u64_getD hZb k
      have hdl := digK_len Z k (by omega)
      generalize Z.getD k 0 = x at *
      have hpl := putLong_c x hxb wr
      have hzl : (dig 256 8 x).length = 8 := dig_length _ _ _
      have HDS := Lib.hid hds
      clear hds
      generalize dig 256 8 x = zs at *
      go_wp2_with fail
      refine hpl.mono ?_
      clear hpl
      rintro e w3 ⟨rfl, hb3⟩
      have B3 := B.below hb3
      have O3 := O.below hb3
      have hbel3 := bCall hbel hb3 hbel.size
      have X3 := Blk.new w3 107 (ints .u8 (zeros 8))
      have hb4 := bSetRow ((Below.refl w3.heap.size w3).alloc (Nat.le_refl _) (.cells (ints .u8 (zeros 8)) 107)) (Nat.le_refl _) (ints .u8 zs)
      have X4 := X3.row (ints .u8 zs)
      have B4 := B3.below hb4
      have O4 := O3.below hb4
      have hbel4 := bCall hbel3 hb4 hbel3.size
      have s4 : Sl _ (some ⟨w3.heap.size, 0, none⟩) .u8 zs := Sl.blk X4
      clear B O hbel hb3 B3 O3 hbel3 hb4 X4 hix
      go_wp2_with (first
        | (refine wpList_alloc_ints rfl 107 rfl Tryz.z107 ?_; (try simp only [Act.put, List.setIfInBounds_toArray, List.set_cons_zero, List.set_cons_succ, World.size_alloc, setRow_size, Nat.add_assoc, Nat.reduceAdd]))
        | (refine wpList_store_ints rfl 107 _ _ rfl _ rfl rfl X3 (zeros_size _ _) Tryz.ar107 hzl ?_
           generalize ((w3.alloc (.cells (ints .u8 (zeros 8)) 107)).setRow w3.heap.size (ints .u8 zs)) = w4 at *
           generalize w3.heap.size = nb at *
           clear X3
           (try simp only [Act.put, List.setIfInBounds_toArray, List.set_cons_zero, List.set_cons_succ, World.size_alloc, setRow_size, Nat.add_assoc, Nat.reduceAdd]))
        | (at_builtin; refine wpList_append_sl (zs := zs) rfl rfl Tryz.underlying23 Tryz.inf8 rfl (by omega) rfl O4 rfl hzl.symm (fun h => by cases h) s4 (by rw [hdl, hzl]; omega) hbel4.size ?_
           intro v' w5 hown' hgr
           rw [← HDS.out] at hown'
           have B5 : HB w5 w.heap.size Z b.length 0 (.slice a b.length c) 48 := ⟨B4.blk.grownTy hgr O4 (by decide), B4.len⟩
           have hbel5 := bGrown hbel4 hgr hbel4.size O4 (Nat.le_refl _)
           clear B4 O4 hbel4 s4 hgr HDS
           (try simp only [Act.put, List.setIfInBounds_toArray, List.set_cons_zero, List.set_cons_succ, World.size_alloc, setRow_size, Nat.add_assoc, Nat.reduceAdd])))
      exact ⟨⟨k + 1, by omega, by go_num, B5, hown', hbel5⟩, by simp [intOf] <;> omega⟩
    · have ek : k = 8 := by omega
      have hd : decide ((k : Int) < 8) = false := by simp; omega
      rw [ek] at O
      clear ek
      have hdl := digK_len Z 8 (by omega)
      obtain ⟨a4, c4, rfl, s4, hc4, -, hn4⟩ := O.slz
      rw [hdl] at hc4 ⊢
      have k1 := B.cN
      clear O B
      go_wp2_with (refine wpList_sliceHi (n := 48) rfl rfl Tryz.underlying23 Tryz.s15 rfl rfl (by omega) s4 ?_; intro ad2 hs2 hnn; rw [← HS.out] at hs2; (try simp only [Act.put, List.setIfInBounds_toArray, List.set_cons_zero, List.set_cons_succ, World.size_alloc, setRow_size, Nat.add_assoc, Nat.reduceAdd]))
      go_ret
      exact ⟨_, _, rfl, hs2, by omega, hbel⟩
end Go.Proofs.YtaiffkajkbiidaaGreatDoor
