/- AEZ's key: Extract. No condition but that bytes are below 256. -/
import Derived.Test.YtaiffkajkbiidaaGreatDoorW6h
namespace Go.Proofs.YtaiffkajkbiidaaGreatDoor
set_option linter.unusedSimpArgs false
set_option linter.unusedVariables false
set_option linter.unusedSectionVars false
set_option linter.unusedVariables false
open Go.RowKit
section
variable {P : Program} {o : Oper} {a : Act} {w : World}
theorem run_sliceLo {T e : TypeId} {x y : Operand} {g off len cap lo : Nat} (hT : P.underlying T = some (.slice e)) (hs : (P.info? e).map (·.size) = some 1) (ho : o.op = .slice T x (some y) none none)
    (hx : a.eval x = .slice (some ⟨g, off, none⟩) len cap) (hy : a.eval y = .int .i64 (lo : Int)) (h1 : lo ≤ len) (h3 : lo < cap) :
    (execOp a.eval o).run P w = .ok (.value (.slice (some ⟨g, off + lo, none⟩) (len - lo) (cap - lo))) w := by
  obtain ⟨d, hd, hd1⟩ := Option.map_eq_some_iff.1 hs
  have he := elem_of hT
  have hT' : P.underlying T = some (.slice (P.elem T)) := by rw [he]; exact hT
  have hr := run_slice_l (P := P) (w := w) T (some ⟨g, off, none⟩) len cap hT' .i64 lo (by omega) (by omega)
  have hsz : (sizeOf (P.elem T)).run P w = .ok 1 w := by simp [sizeOf, typeInfo, he, hd, hd1]
  rw [hsz] at hr
  have hne : ¬ cap = lo := by omega
  unfold execOp
  simp only [ho, hx, hy, Option.map_some, Option.map_none, Sem.run_bind, Sem.run_pure, run_sliceAt_slice w T _ _ _ _ hT', hr, Result.andThen_ok, Int.toNat_natCast, sliced, if_neg hne, Nat.mul_one, Addr.add_mid]
end
theorem bldK (gt : Nat) (I J Z : List Nat) (hI : I.length = 16) (hJ : J.length = 16) (hZ : Z.length = 16) (W : World) : (Instr.build 103 #[(0, .pointer (some ⟨gt, 0, none⟩)), (1, .agg (ints .u8 I)), (2, .agg (ints .u8 J)), (3, .agg (ints .u8 Z))]).run Tryz.prog W = .ok (.agg (#[.pointer (some ⟨gt, 0, none⟩)] ++ ints .u8 (I ++ J ++ Z))) W := by
  obtain ⟨x0, x1, x2, x3, x4, x5, x6, x7, x8, x9, x10, x11, x12, x13, x14, x15, rfl⟩ := list16 I hI
  obtain ⟨y0, y1, y2, y3, y4, y5, y6, y7, y8, y9, y10, y11, y12, y13, y14, y15, rfl⟩ := list16 J hJ
  obtain ⟨z0, z1, z2, z3, z4, z5, z6, z7, z8, z9, z10, z11, z12, z13, z14, z15, rfl⟩ := list16 Z hZ
  kernel_rfl
theorem run_bldK {o : Oper} {a : Act} {x0 x1 x2 x3 : Operand} {w : World} {gt : Nat} {I J Z : List Nat} (hI : I.length = 16) (hJ : J.length = 16) (hZ : Z.length = 16) (ho : o.op = .build 103 #[(0, x0), (1, x1), (2, x2), (3, x3)]) (h0 : a.eval x0 = .pointer (some ⟨gt, 0, none⟩)) (h1 : a.eval x1 = .agg (ints .u8 I)) (h2 : a.eval x2 = .agg (ints .u8 J)) (h3 : a.eval x3 = .agg (ints .u8 Z)) :
    (execOp a.eval o).run Tryz.prog w = .ok (.value (.agg (#[.pointer (some ⟨gt, 0, none⟩)] ++ ints .u8 (I ++ J ++ Z)))) w := by
  unfold execOp
  simp only [ho, List.map_toArray, List.map_cons, List.map_nil, h0, h1, h2, h3]
  simp only [Sem.run_bind, bldK gt I J Z hI hJ hZ, Result.andThen_ok]
  rfl
/-- The 48 bytes that a key comes to, and its parts. -/
def keyB (key : List Nat) : List Nat := if key.length = 48 then key else sumH bStartL key
theorem sumH_len (hs b : List Nat) (h : hs.length = 8) : (sumH hs b).length = 48 := by
  unfold sumH
  rw [List.length_take, digK_len _ 8 (by rw [compN_len, h]; omega)]; rfl
theorem digK_lt (Z : List Nat) (k : Nat) : ∀ x ∈ digK Z k, x < 256 := fun x hx => by
  unfold digK at hx
  obtain ⟨l, hl, hx⟩ := List.mem_flatten.1 hx
  obtain ⟨n, -, rfl⟩ := List.mem_map.1 hl
  exact dig_lt (by decide) _ _ x hx
theorem keyB_len (key : List Nat) : (keyB key).length = 48 := by
  unfold keyB
  split
  · assumption
  · exact sumH_len _ _ rfl
theorem keyB_lt {key : List Nat} (hb : ∀ x ∈ key, x < 256) : ∀ x ∈ keyB key, x < 256 := by
  unfold keyB
  split
  · exact hb
  · exact fun x hx => digK_lt _ _ x (List.mem_of_mem_take hx)
def exI (key : List Nat) : List Nat := blockN (keyB key)
def exJ (key : List Nat) : List Nat := blockN ((keyB key).drop 16)
def exZ (key : List Nat) : List Nat := blockN ((keyB key).drop 32)
set_option maxRecDepth 100000 in
set_option maxHeartbeats 40000000 in
theorem extract_c (gt gb : Nat) (key : List Nat) (a : Option Addr) (c : Nat) (h0 : key.length ≠ 0) (h128 : key.length ≤ 128) (hb : ∀ x ∈ key, x < 256) (hc : key.length ≤ c) (hn : a = none → c = 0) (w : World) (hT : IsTab w gt gb) (hG : GlB w) (hS : Sl w a .u8 key) :
    Calls Tryz.prog 30 #[.pointer (some ⟨gt, 0, none⟩), .slice a key.length c] w fun e w' => ∃ gk, e = .returned (.tuple #[.pointer (some ⟨gk, 0, none⟩), .int .i64 0]) ∧ w.heap.size ≤ gk ∧ IsKey w' gk gt gb (exI key) (exJ key) (exZ key) ∧ Below w.heap.size w w' := by
  obtain ⟨n, Hn⟩ : ∃ n, Hid (key.length = n) := ⟨_, Lib.hid rfl⟩
  have hsum := fun W (hG' : GlB W) (hS' : Sl W a .u8 key) => blakeSum_c key a c h128 hb hn W hG' hS'
  rw [Hn.out] at h0 h128 hc hsum ⊢
  have hi0 : (n : Int) ≠ 0 := by omega
  have hi1 : ((n : Int) == 0) = false := by simp; omega
  have hi2 : (n : Int) ≤ 128 := by omega
  have hi3 : decide ((n : Int) > 128) = false := by simp; omega
  obtain ⟨kb, HK⟩ : ∃ kb, Hid (keyB key = kb) := ⟨_, Lib.hid rfl⟩
  have hkl : kb.length = 48 := by rw [← HK.out]; exact keyB_len key
  have hkb : ∀ x ∈ kb, x < 256 := by rw [← HK.out]; exact keyB_lt hb
  have HI : Hid (exI key = blockN kb ∧ exJ key = blockN (kb.drop 16) ∧ exZ key = blockN (kb.drop 32)) := Lib.hid (by rw [← HK.out]; exact ⟨rfl, rfl, rfl⟩)
  rw [HI.out.1, HI.out.2.1, HI.out.2.2]
  clear HI
  have kl0 : (kb.drop 16).length = 32 := by rw [List.length_drop, hkl]
  have kl1 : (kb.drop 32).length = 16 := by rw [List.length_drop, hkl]
  have ml0 := blockN_len kb
  have ml1 := blockN_len (kb.drop 16)
  have ml2 := blockN_len (kb.drop 32)
  have mb0 := blockN_lt hkb
  have mb1 := blockN_lt (bs := kb.drop 16) fun x hx => hkb x (List.mem_of_mem_drop hx)
  have mb2 := blockN_lt (bs := kb.drop 32) fun x hx => hkb x (List.mem_of_mem_drop hx)
  have hblk := fun (ga oa cc : Nat) (W : World) (h : Sl W (some ⟨ga, oa, none⟩) .u8 kb) => block_c (some ⟨ga, oa, none⟩) cc kb W h
  have hblk1 := fun (ga oa cc : Nat) (W : World) (h : Sl W (some ⟨ga, oa, none⟩) .u8 kb) => block_c (some ⟨ga, oa + 16, none⟩) cc (kb.drop 16) W (h.drop 16)
  have hblk2 := fun (ga oa cc : Nat) (W : World) (h : Sl W (some ⟨ga, oa, none⟩) .u8 kb) => block_c (some ⟨ga, oa + 32, none⟩) cc (kb.drop 32) W (h.drop 32)
  rw [hkl] at hblk
  rw [kl0] at hblk1
  rw [kl1] at hblk2
  generalize blockN kb = I at *
  generalize blockN (kb.drop 16) = J at *
  generalize blockN (kb.drop 32) = Z at *
  have hK : ∀ (W : World) (g : Nat), IsTab W gt gb → Blk W g 103 (#[.pointer (some ⟨gt, 0, none⟩)] ++ ints .u8 (I ++ J ++ Z)) → IsKey W g gt gb I J Z := fun W g h1 h2 => ⟨h2, h1, ml0, ml1, ml2, mb0, mb1, mb2⟩
  go_enter Tryz.func30, Tryz.ntmps30
  by_cases h48 : n = 48
  · subst h48
    have hk48 : keyB key = key := by unfold keyB; rw [if_pos Hn.out]
    rw [hk48] at HK
    have ek : key = kb := HK.out
    rw [ek] at hS
    clear ek
    go_wp2_with fail
    have S2 := hS
    have hbel2 := Below.refl w.heap.size w
    obtain ⟨c2, hc2e⟩ : ∃ c2, c2 = c := ⟨_, rfl⟩
    rw [← hc2e] at hc ⊢
    have hc2 := hc
    clear hc2e hS hsum
    have hnil : kb ≠ [] := fun e => by rw [e] at hkl; simp at hkl
    obtain ⟨ga, oa, ea, -, -⟩ := S2 hnil
    subst ea
    refine wp_region_below_tail 10 (by kernel_rfl) (by kernel_rfl) ?_
    simp only [List.take_succ_cons, List.take_zero, List.drop_succ_cons, List.drop_zero]
    go_big_quiet_step (fail)
    go_big_quiet_step (fail)
    refine quiet_call 38 rfl rfl Tryz.func38 (by kernel_rfl) (by kernel_rfl) (fun W hQ => (hblk ga oa c2 W (S2.below hQ))) ?_
    (try simp only [Act.put, List.setIfInBounds_toArray, List.set_cons_zero, List.set_cons_succ, World.size_alloc, setRow_size, Nat.add_assoc, Nat.reduceAdd])
    go_big_quiet_step (fail)
    refine quiet_run rfl (fun W => run_sliceLo (lo := 16) Tryz.underlying23 Tryz.s15 rfl rfl rfl (by omega) (by omega)) ?_
    (try simp only [Act.put, List.setIfInBounds_toArray, List.set_cons_zero, List.set_cons_succ, World.size_alloc, setRow_size, Nat.add_assoc, Nat.reduceAdd])
    refine quiet_call 38 rfl rfl Tryz.func38 (by kernel_rfl) (by kernel_rfl) (fun W hQ => (hblk1 ga oa (c2 - 16) W (S2.below hQ))) ?_
    (try simp only [Act.put, List.setIfInBounds_toArray, List.set_cons_zero, List.set_cons_succ, World.size_alloc, setRow_size, Nat.add_assoc, Nat.reduceAdd])
    go_big_quiet_step (fail)
    refine quiet_run rfl (fun W => run_sliceLo (lo := 32) Tryz.underlying23 Tryz.s15 rfl rfl rfl (by omega) (by omega)) ?_
    (try simp only [Act.put, List.setIfInBounds_toArray, List.set_cons_zero, List.set_cons_succ, World.size_alloc, setRow_size, Nat.add_assoc, Nat.reduceAdd])
    refine quiet_call 38 rfl rfl Tryz.func38 (by kernel_rfl) (by kernel_rfl) (fun W hQ => (hblk2 ga oa (c2 - 32) W (S2.below hQ))) ?_
    (try simp only [Act.put, List.setIfInBounds_toArray, List.set_cons_zero, List.set_cons_succ, World.size_alloc, setRow_size, Nat.add_assoc, Nat.reduceAdd])
    refine quiet_run rfl (fun W => run_bldK ml0 ml1 ml2 rfl rfl rfl rfl rfl) ?_
    (try simp only [Act.put, List.setIfInBounds_toArray, List.set_cons_zero, List.set_cons_succ, World.size_alloc, setRow_size, Nat.add_assoc, Nat.reduceAdd])
    refine wpQuiet_nil ?_
    intro w' hw'
    have hbel3 := bCall hbel2 hw' hbel2.size
    have T3 := (hT.below hbel3).below ((Below.refl w'.heap.size w').alloc (Nat.le_refl _) (.cells (#[.pointer (some ⟨gt, 0, none⟩)] ++ ints .u8 (I ++ J ++ Z)) 103))
    have B3 := Blk.new w' 103 (#[.pointer (some ⟨gt, 0, none⟩)] ++ ints .u8 (I ++ J ++ Z))
    have K3 := hK _ _ T3 B3
    have hbel4 := hbel3.alloc hbel3.size (.cells (#[.pointer (some ⟨gt, 0, none⟩)] ++ ints .u8 (I ++ J ++ Z)) 103)
    have hsz3 := hbel3.size
    clear hK hblk hblk1 hblk2 T3 B3
    rw [List.append_assoc] at K3 hbel4
    go_wp2_with fail
    refine bodyPost_ret (v := .tuple #[.pointer (some ⟨w'.heap.size, 0, none⟩), .int .i64 0]) ?_ rfl ⟨_, rfl, hsz3, K3, hbel4⟩
    simp [results, Tryz.results30]
  · have hk48 : keyB key = sumH bStartL key := by unfold keyB; rw [if_neg (by rw [Hn.out]; exact h48)]
    rw [hk48] at HK
    rw [HK.out] at hsum
    have hi4 : (n : Int) ≠ 48 := by omega
    have hi5 : ((n : Int) == 48) = false := by simp; omega
    go_wp2_with fail
    refine (hsum w hG hS).mono ?_
    rintro e w2 ⟨a2, c2, rfl, S2, hc2, hbel2⟩
    clear hsum hS
    go_wp2_with fail
    have hnil : kb ≠ [] := fun e => by rw [e] at hkl; simp at hkl
    obtain ⟨ga, oa, ea, -, -⟩ := S2 hnil
    subst ea
    refine wp_region_below_tail 10 (by kernel_rfl) (by kernel_rfl) ?_
    simp only [List.take_succ_cons, List.take_zero, List.drop_succ_cons, List.drop_zero]
    go_big_quiet_step (fail)
    go_big_quiet_step (fail)
    refine quiet_call 38 rfl rfl Tryz.func38 (by kernel_rfl) (by kernel_rfl) (fun W hQ => (hblk ga oa c2 W (S2.below hQ))) ?_
    (try simp only [Act.put, List.setIfInBounds_toArray, List.set_cons_zero, List.set_cons_succ, World.size_alloc, setRow_size, Nat.add_assoc, Nat.reduceAdd])
    go_big_quiet_step (fail)
    refine quiet_run rfl (fun W => run_sliceLo (lo := 16) Tryz.underlying23 Tryz.s15 rfl rfl rfl (by omega) (by omega)) ?_
    (try simp only [Act.put, List.setIfInBounds_toArray, List.set_cons_zero, List.set_cons_succ, World.size_alloc, setRow_size, Nat.add_assoc, Nat.reduceAdd])
    refine quiet_call 38 rfl rfl Tryz.func38 (by kernel_rfl) (by kernel_rfl) (fun W hQ => (hblk1 ga oa (c2 - 16) W (S2.below hQ))) ?_
    (try simp only [Act.put, List.setIfInBounds_toArray, List.set_cons_zero, List.set_cons_succ, World.size_alloc, setRow_size, Nat.add_assoc, Nat.reduceAdd])
    go_big_quiet_step (fail)
    refine quiet_run rfl (fun W => run_sliceLo (lo := 32) Tryz.underlying23 Tryz.s15 rfl rfl rfl (by omega) (by omega)) ?_
    (try simp only [Act.put, List.setIfInBounds_toArray, List.set_cons_zero, List.set_cons_succ, World.size_alloc, setRow_size, Nat.add_assoc, Nat.reduceAdd])
    refine quiet_call 38 rfl rfl Tryz.func38 (by kernel_rfl) (by kernel_rfl) (fun W hQ => (hblk2 ga oa (c2 - 32) W (S2.below hQ))) ?_
    (try simp only [Act.put, List.setIfInBounds_toArray, List.set_cons_zero, List.set_cons_succ, World.size_alloc, setRow_size, Nat.add_assoc, Nat.reduceAdd])
    refine quiet_run rfl (fun W => run_bldK ml0 ml1 ml2 rfl rfl rfl rfl rfl) ?_
    (try simp only [Act.put, List.setIfInBounds_toArray, List.set_cons_zero, List.set_cons_succ, World.size_alloc, setRow_size, Nat.add_assoc, Nat.reduceAdd])
    refine wpQuiet_nil ?_
    intro w' hw'
    have hbel3 := bCall hbel2 hw' hbel2.size
    have T3 := (hT.below hbel3).below ((Below.refl w'.heap.size w').alloc (Nat.le_refl _) (.cells (#[.pointer (some ⟨gt, 0, none⟩)] ++ ints .u8 (I ++ J ++ Z)) 103))
    have B3 := Blk.new w' 103 (#[.pointer (some ⟨gt, 0, none⟩)] ++ ints .u8 (I ++ J ++ Z))
    have K3 := hK _ _ T3 B3
    have hbel4 := hbel3.alloc hbel3.size (.cells (#[.pointer (some ⟨gt, 0, none⟩)] ++ ints .u8 (I ++ J ++ Z)) 103)
    have hsz3 := hbel3.size
    clear hK hblk hblk1 hblk2 T3 B3
    rw [List.append_assoc] at K3 hbel4
    go_wp2_with fail
    refine bodyPost_ret (v := .tuple #[.pointer (some ⟨w'.heap.size, 0, none⟩), .int .i64 0]) ?_ rfl ⟨_, rfl, hsz3, K3, hbel4⟩
    simp [results, Tryz.results30]
end Go.Proofs.YtaiffkajkbiidaaGreatDoor
