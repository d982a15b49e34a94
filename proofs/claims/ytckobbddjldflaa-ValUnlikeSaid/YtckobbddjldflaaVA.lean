/- Plain laws: values of rows of blocks; length blocks; rows of a tweak and a message. No program is spoken of. No condition. -/
import Derived.Test.YtckobbddjldflaaWA
import Derived.Test.YtckobbddjldflaaKA
import Derived.Test.YtckobbddjldflaaOA
import Derived.Test.YtckobbddjldflaaW10i
import Derived.Test.YtckobbddjldflaaWB
namespace Go.Proofs.Ytckobbddjldflaa
set_option linter.unusedSimpArgs false
set_option linter.unusedVariables false
set_option linter.unusedSectionVars false
set_option linter.unusedVariables false
open Gf (up upN mulS mul dot R1 D1)
/-- The dot of two elements. -/
def dotL (h x : List Nat) : List Nat := elem (dot R1 D1 (num h) (num x))
theorem dotL_len (h x : List Nat) : (dotL h x).length = 16 := elem_len _
theorem dotL_lt (h x : List Nat) : ∀ y ∈ dotL h x, y < 256 := elem_lt _
/-- A value, gone on by the first n blocks. -/
def onL (h v bs : List Nat) : Nat → List Nat
  | 0 => v
  | n + 1 => dotL h (xorL (onL h v bs n) (blk bs n))
def valL (h bs : List Nat) : List Nat := onL h (zeros 16) (padL bs) ((padL bs).length / 16)
theorem onL_len {h v bs : List Nat} (hv : v.length = 16) : ∀ n, (onL h v bs n).length = 16
  | 0 => hv
  | n + 1 => dotL_len _ _
theorem onL_lt {h v bs : List Nat} (hv : ∀ x ∈ v, x < 256) : ∀ n, ∀ x ∈ onL h v bs n, x < 256
  | 0 => hv
  | n + 1 => dotL_lt _ _
theorem onL_append_l (h v : List Nat) {a b : List Nat} : ∀ n, 16 * n ≤ a.length → onL h v (a ++ b) n = onL h v a n
  | 0, _ => rfl
  | n + 1, hn => by
    show dotL h (xorL (onL h v (a ++ b) n) (blk (a ++ b) n)) = dotL h (xorL (onL h v a n) (blk a n))
    rw [onL_append_l h v n (by omega), blk_append_l (by omega)]
theorem onL_append (h v : List Nat) {a b : List Nat} {k : Nat} (hk : a.length = 16 * k) : ∀ n, onL h v (a ++ b) (k + n) = onL h (onL h v a k) b n
  | 0 => onL_append_l h v k (by omega)
  | n + 1 => by
    show dotL h (xorL (onL h v (a ++ b) (k + n)) (blk (a ++ b) (k + n))) = dotL h (xorL (onL h (onL h v a k) b n) (blk b n))
    rw [onL_append h v hk n, blk_append_r hk]
/-! ### linear -/
theorem num_zeros16 : num (zeros 16) = 0 := num_zero
theorem dotL_xor {h x y : List Nat} (hh : h.length = 16) (hb : ∀ z ∈ h, z < 256) (hx : x.length = 16) (hxb : ∀ z ∈ x, z < 256) (hy : y.length = 16) (hyb : ∀ z ∈ y, z < 256) :
    dotL h (xorL x y) = xorL (dotL h x) (dotL h y) := by
  have nh := num_lt hh hb
  have nx := num_lt hx hxb
  have ny := num_lt hy hyb
  unfold dotL
  rw [num_xor hx hxb hy hyb, elem_xor (Gf.dot_lt Gf.pair1 nh _) (Gf.dot_lt Gf.pair1 nh _), Gf.dot_comm nh (Nat.xor_lt_two_pow nx ny), Gf.dot_lin_l Gf.pair1 nx nh, Gf.dot_comm nx nh, Gf.dot_comm ny nh]
theorem dotL_zero {h : List Nat} (hh : h.length = 16) (hb : ∀ z ∈ h, z < 256) : dotL h (zeros 16) = zeros 16 := by
  unfold dotL
  rw [num_zeros16]
  unfold dot
  rw [show mul R1 (num h) 0 = 0 from (Gf.mul_lin_r R1 (num h)).zero, (Gf.downN_lin D1 128).zero]
  decide
theorem dotL_comm {x y : List Nat} (hx : x.length = 16) (hxb : ∀ z ∈ x, z < 256) (hy : y.length = 16) (hyb : ∀ z ∈ y, z < 256) : dotL x y = dotL y x := by
  unfold dotL; rw [Gf.dot_comm (num_lt hx hxb) (num_lt hy hyb)]
theorem xorL_four {a b c d : List Nat} (ha : a.length = 16) (hb : b.length = 16) (hc : c.length = 16) (hd : d.length = 16) : xorL (xorL a b) (xorL c d) = xorL (xorL a c) (xorL b d) := by
  refine list_ext16 (xorL_len _ _) (xorL_len _ _) fun i hi => ?_
  rw [xorL_getD _ _ hi, xorL_getD _ _ hi, xorL_getD _ _ hi, xorL_getD _ _ hi, xorL_getD _ _ hi, xorL_getD _ _ hi, Gf.xor4]
/-- Block by block. -/
theorem onL_xor {h : List Nat} (hh : h.length = 16) (hb : ∀ z ∈ h, z < 256) {a b c : List Nat} (ha : ∀ z ∈ a, z < 256) (hbb : ∀ z ∈ b, z < 256) {u v : List Nat} (hu : u.length = 16) (hub : ∀ z ∈ u, z < 256) (hv : v.length = 16) (hvb : ∀ z ∈ v, z < 256) (N : Nat) (hla : a.length = 16 * N) (hlb : b.length = 16 * N)
    (hc : ∀ i, i < N → blk c i = xorL (blk a i) (blk b i)) : ∀ n, n ≤ N → onL h (xorL u v) c n = xorL (onL h u a n) (onL h v b n)
  | 0, _ => rfl
  | n + 1, hn => by
    have la := blk_len (bs := a) (i := n) (by omega)
    have lb := blk_len (bs := b) (i := n) (by omega)
    show dotL h (xorL (onL h (xorL u v) c n) (blk c n)) = xorL (dotL h (xorL (onL h u a n) (blk a n))) (dotL h (xorL (onL h v b n) (blk b n)))
    rw [onL_xor hh hb ha hbb hu hub hv hvb N hla hlb hc n (by omega), hc n (by omega), xorL_four (onL_len hu n) (onL_len hv n) la lb,
      dotL_xor hh hb (xorL_len _ _) (xorL_lt (onL_lt hub n) (blk_lt ha n)) (xorL_len _ _) (xorL_lt (onL_lt hvb n) (blk_lt hbb n))]
/-! ### length blocks -/
def lenL (n : Nat) (whole : Bool) : List Nat := dig 256 16 (16 * n + if whole then 2 else 3)
theorem lenL_len (n : Nat) (w : Bool) : (lenL n w).length = 16 := dig_length _ _ _
theorem lenL_lt (n : Nat) (w : Bool) : ∀ x ∈ lenL n w, x < 256 := dig_lt (by omega) _ _
theorem lenL_inj {n m : Nat} {a b : Bool} (hn : n < 2 ^ 64) (hm : m < 2 ^ 64) (h : lenL n a = lenL m b) : n = m ∧ a = b := by
  have := dig_inj (b := 256) 16 (v := 16 * n + if a then 2 else 3) (u := 16 * m + if b then 2 else 3) (by cases a <;> simp <;> omega) (by cases b <;> simp <;> omega) h
  cases a <;> cases b <;> simp at this ⊢ <;> omega
def encL (t m : List Nat) : List Nat := lenL t.length (decide (m.length % 16 = 0)) ++ padL t ++ msgL m
theorem encL_mod (t m : List Nat) : (encL t m).length % 16 = 0 := by
  unfold encL
  rw [List.length_append, List.length_append, lenL_len]
  have := padL_mod t
  have := msgL_mod m
  omega
theorem encL_inj {t m t' m' : List Nat} (ht : t.length < 2 ^ 64) (ht' : t'.length < 2 ^ 64) (h : encL t m = encL t' m') : t = t' ∧ m = m' := by
  unfold encL at h
  rw [List.append_assoc, List.append_assoc] at h
  obtain ⟨h1, h2⟩ := List.append_inj h (by rw [lenL_len, lenL_len])
  obtain ⟨hn, hw⟩ := lenL_inj ht ht' h1
  obtain ⟨h3, h4⟩ := List.append_inj h2 (by rw [padL_len, padL_len, hn])
  refine ⟨padL_inj hn h3, ?_⟩
  have hw' := decide_eq_decide.1 hw
  unfold msgL at h4
  by_cases hm : m.length % 16 = 0
  · rwa [if_pos hm, if_pos (hw'.1 hm)] at h4
  · rw [if_neg hm, if_neg (fun e => hm (hw'.2 e))] at h4
    exact markL_inj h4
/-! ### powers -/
def dotN (h x : List Nat) : Nat → List Nat
  | 0 => x
  | n + 1 => dotL (dotN h x n) h
theorem dotN_len {h x : List Nat} (hx : x.length = 16) : ∀ n, (dotN h x n).length = 16
  | 0 => hx
  | n + 1 => dotL_len _ _
theorem dotN_lt {h x : List Nat} (hx : ∀ z ∈ x, z < 256) : ∀ n, ∀ z ∈ dotN h x n, z < 256
  | 0 => hx
  | n + 1 => dotL_lt _ _
/-- The sum of the first j blocks, block i times the power n - i of h. -/
def powS (h bs : List Nat) (n : Nat) : Nat → List Nat
  | 0 => zeros 16
  | j + 1 => xorL (powS h bs n j) (dotN h (blk bs j) (n - j))
theorem powS_len (h bs : List Nat) (n : Nat) : ∀ j, (powS h bs n j).length = 16
  | 0 => zeros_len _
  | j + 1 => xorL_len _ _
theorem powS_lt {h bs : List Nat} (hb : ∀ z ∈ bs, z < 256) (n : Nat) : ∀ j, ∀ z ∈ powS h bs n j, z < 256
  | 0 => zeros_lt _ (by omega)
  | j + 1 => xorL_lt (powS_lt hb n j) (dotN_lt (blk_lt hb j) _)
theorem powS_dot {h bs : List Nat} (hh : h.length = 16) (hhb : ∀ z ∈ h, z < 256) (hb : ∀ z ∈ bs, z < 256) (n : Nat) (hl : 16 * n ≤ bs.length) : ∀ j, j ≤ n → dotL h (powS h bs n j) = powS h bs (n + 1) j
  | 0, _ => dotL_zero hh hhb
  | j + 1, hj => by
    have lb := blk_len (bs := bs) (i := j) (by omega)
    show dotL h (xorL (powS h bs n j) (dotN h (blk bs j) (n - j))) = xorL (powS h bs (n + 1) j) (dotN h (blk bs j) (n + 1 - j))
    rw [dotL_xor hh hhb (powS_len h bs n j) (powS_lt hb n j) (dotN_len lb _) (dotN_lt (blk_lt hb j) _), powS_dot hh hhb hb n hl j (by omega), show n + 1 - j = (n - j) + 1 by omega, show dotN h (blk bs j) (n - j + 1) = dotL (dotN h (blk bs j) (n - j)) h from rfl, dotL_comm hh hhb (dotN_len lb _) (dotN_lt (blk_lt hb j) _)]
theorem onL_powers {h bs : List Nat} (hh : h.length = 16) (hhb : ∀ z ∈ h, z < 256) (hb : ∀ z ∈ bs, z < 256) : ∀ n, 16 * n ≤ bs.length → onL h (zeros 16) bs n = powS h bs n n
  | 0, _ => rfl
  | n + 1, hl => by
    have lb := blk_len (bs := bs) (i := n) (by omega)
    show dotL h (xorL (onL h (zeros 16) bs n) (blk bs n)) = xorL (powS h bs (n + 1) n) (dotN h (blk bs n) (n + 1 - n))
    rw [onL_powers hh hhb hb n (by omega), dotL_xor hh hhb (powS_len _ _ _ _) (powS_lt hb _ _) lb (blk_lt hb n), powS_dot hh hhb hb n (by omega) n (Nat.le_refl n), show n + 1 - n = 1 by omega, show dotN h (blk bs n) 1 = dotL (blk bs n) h from rfl, dotL_comm hh hhb lb (blk_lt hb n)]
theorem onL_zero {bs : List Nat} (hb : ∀ z ∈ bs, z < 256) : ∀ n, 16 * n ≤ bs.length → onL (zeros 16) (zeros 16) bs n = zeros 16
  | 0, _ => rfl
  | n + 1, hl => by
    have lb := blk_len (bs := bs) (i := n) (by omega)
    show dotL (zeros 16) (xorL _ (blk bs n)) = _
    rw [onL_zero hb n (by omega), dotL_comm (zeros_len _) (zeros_lt _ (by omega)) (xorL_len _ _) (xorL_lt (zeros_lt _ (by omega)) (blk_lt hb n))]
    exact dotL_zero (xorL_len _ _) (xorL_lt (zeros_lt _ (by omega)) (blk_lt hb n))
/-! ### the reference's length block, by carries -/
theorem carry_step (n kind k : Nat) : (kind + 16 * (n % 256 ^ k)) / 256 ^ k + 16 * (n / 256 ^ k % 256) = (kind + 16 * (n % 256 ^ (k + 1))) / 256 ^ k := by
  rw [Nat.mod_pow_succ, Nat.mul_add, ← Nat.add_assoc, show 16 * (256 ^ k * (n / 256 ^ k % 256)) = 256 ^ k * (16 * (n / 256 ^ k % 256)) by rw [Nat.mul_left_comm], Nat.add_mul_div_left _ _ (Nat.pow_pos (by omega))]
theorem carry_next (n kind k : Nat) : ((kind + 16 * (n % 256 ^ k)) / 256 ^ k + 16 * (n / 256 ^ k % 256)) / 256 = (kind + 16 * (n % 256 ^ (k + 1))) / 256 ^ (k + 1) := by
  rw [carry_step, Nat.div_div_eq_div_mul, ← Nat.pow_succ]
theorem carry_digit (n kind k : Nat) : ((kind + 16 * (n % 256 ^ k)) / 256 ^ k + 16 * (n / 256 ^ k % 256)) % 256 = (16 * n + kind) / 256 ^ k % 256 := by
  have e : 16 * n + kind = (kind + 16 * (n % 256 ^ k)) + 256 ^ k * (16 * (n / 256 ^ k)) := by
    have := Nat.mod_add_div n (256 ^ k)
    have h2 : 256 ^ k * (16 * (n / 256 ^ k)) = 16 * (256 ^ k * (n / 256 ^ k)) := by rw [Nat.mul_left_comm]
    rw [h2]
    omega
  rw [e, Nat.add_mul_div_left _ _ (Nat.pow_pos (by omega))]
  omega
theorem carry_low (n k : Nat) (hn : n < 2 ^ 64) (hk : 8 ≤ k) : n / 256 ^ k % 256 = 0 := by
  have : n < 256 ^ k := Nat.lt_of_lt_of_le (show n < 256 ^ 8 from hn) (Nat.pow_le_pow_right (by omega) hk)
  rw [Nat.div_eq_of_lt this]
end Go.Proofs.Ytckobbddjldflaa
/- val.New, State.Write, State.Value, val.Sum. No condition but that bytes are below 256 and rows shorter than 2^32. -/
namespace Go.Proofs.Ytckobbddjldflaa
set_option linter.unusedSimpArgs false
set_option linter.unusedVariables false
set_option linter.unusedSectionVars false
set_option linter.unusedVariables false
open Go.RowKit
open Gf (W2 up upN mulS mul R1 D1 dot)
/-- The cells of a State: its table's place, its value. -/
def stC (gt : Nat) (v : List Nat) : Array Value := ([Value.pointer (some ⟨gt, 0, none⟩)] ++ vals .u8 v ++ []).toArray
/-- Pointer p is a State's (at block g, from B on) by element h, with value v. -/
def IsSt (w : World) (g gt : Nat) (h v : List Nat) : Prop := Blk w g 60 (stC gt v) ∧ Blk w gt 70 (ints .u64 (tabL (dot R1 D1 (num h) 1) 16))
theorem tab_dotL {h x : List Nat} (hh : h.length = 16) (hb : ∀ z ∈ h, z < 256) (hx : x.length = 16) (hxb : ∀ z ∈ x, z < 256) : elem (mul R1 (dot R1 D1 (num h) 1) (num x)) = dotL h x := by
  have nh := num_lt hh hb
  have nx := num_lt hx hxb
  unfold dotL
  congr 1
  rw [Gf.dot_comm nh nx]
  unfold dot
  rw [Gf.mul_one, Gf.mul_downN_l Gf.pair1 nh nx, Gf.mul_comm R1 nh nx]
theorem st_zero (gt : Nat) : #[Value.pointer (some ⟨gt, 0, none⟩), .int .u8 0, .int .u8 0, .int .u8 0, .int .u8 0, .int .u8 0, .int .u8 0, .int .u8 0, .int .u8 0, .int .u8 0, .int .u8 0, .int .u8 0, .int .u8 0, .int .u8 0, .int .u8 0, .int .u8 0, .int .u8 0] = stC gt (zeros 16) := rfl
set_option maxRecDepth 100000 in
set_option maxHeartbeats 2000000 in
theorem new11_c (hs : List Nat) (hl : hs.length = 16) (hb : ∀ x ∈ hs, x < 256) (w : World) :
    Calls Try.prog 18 #[.agg (ints .u8 hs)] w fun e w' => ∃ g gt, e = .returned (.pointer (some ⟨g, 0, none⟩)) ∧ w.heap.size ≤ g ∧ w.heap.size ≤ gt ∧ IsSt w' g gt hs (zeros 16) ∧ Below w.heap.size w w' := by
  have B0 := Blk.new w 22 (ints .u8 hs)
  have hbel := (Below.refl w.heap.size w).alloc (Nat.le_refl _) (.cells (ints .u8 hs) 22)
  go_enter Try.func18, Try.ntmps18
  go_wp2_with (refine wpList_load_ints rfl 22 _ rfl w.heap.size rfl B0 Try.ar22 hl ?_; (try simp only [Act.put, List.setIfInBounds_toArray, List.set_cons_zero, List.set_cons_succ, World.size_alloc, setRow_size, Nat.add_assoc, Nat.reduceAdd]))
  generalize (w.alloc (.cells (ints .u8 hs) 22)) = w0 at *
  have hl0 := B0.lt
  refine (make_c hs hl hb _).mono ?_
  rintro e w1 ⟨rfl, hb1, T⟩
  have hbel1 := bCall hbel hb1 hbel.size
  have hs1 := hb1.size
  have hgt0 : w.heap.size ≤ w0.heap.size + 1 := by omega
  generalize w0.heap.size + 1 = gt at *
  go_wp2
  have S := Blk.new w1 60 (stC gt (zeros 16))
  go_ret
  exact ⟨_, gt, rfl, hbel1.size, hgt0, ⟨S, T.alloc _⟩, hbel1.alloc hbel1.size _⟩
theorem st_sl {w : World} {g t gt : Nat} {v : List Nat} (h : Blk w g t (stC gt v)) : Sl w (some ⟨g, 1, none⟩) .u8 v := fun hn => by
  refine ⟨g, 1, rfl, h.lt, fun i hi => ?_⟩
  refine h.part (o := 1) rfl i _ ?_
  unfold vals
  rw [List.getElem?_map, getD_lt hi]; rfl
theorem st_ptr {w : World} {g t gt : Nat} {v : List Nat} (h : Blk w g t (stC gt v)) : w.cell? ⟨g, 0, none⟩ = some (.pointer (some ⟨gt, 0, none⟩)) := by rw [h.cell]; rfl
theorem blk_getD {bs : List Nat} {i j : Nat} (hj : j < 16) : (blk bs i).getD j 0 = (bs.drop (16 * i)).getD j 0 := by
  unfold blk
  rw [List.getD_eq_getElem?_getD, List.getD_eq_getElem?_getD, List.getElem?_take, if_pos hj]
theorem xorM_blk (v bs : List Nat) (i : Nat) : xorM v (bs.drop (16 * i)) 16 = xorL v (blk bs i) := by
  refine list_ext16 (xorM_len _ _ _) (xorL_len _ _) fun j hj => ?_
  rw [xorM_getD _ _ hj, xorL_getD _ _ hj, blk_getD hj]
theorem blockN_same {bs : List Nat} (h : bs.length = 16) : blockN bs = bs := by
  refine list_ext16 (blockN_len _) h fun i hi => ?_
  unfold blockN
  rw [List.getD_eq_getElem?_getD, List.getElem?_map, List.getElem?_range hi]; rfl
theorem block16_c (a : Option Addr) (c : Nat) (bs : List Nat) (hl : bs.length = 16) (w : World) (hs : Sl w a .u8 bs) :
    Calls Try.prog 33 #[.slice a 16 c] w fun e w' => e = .returned (.agg (ints .u8 bs)) ∧ Below w.heap.size w w' := by
  have h := block_c a c bs w hs
  rw [hl, blockN_same hl] at h
  exact h
def lenOf : Value → Nat
  | .slice _ n _ => n
  | _ => 0
set_option maxRecDepth 100000 in
set_option maxHeartbeats 8000000 in
theorem write11_c (g gt : Nat) (hs v bs : List Nat) (hl : hs.length = 16) (hb : ∀ x ∈ hs, x < 256) (hv : v.length = 16) (hvb : ∀ x ∈ v, x < 256) (hlen : bs.length < 2 ^ 31) (hbb : ∀ x ∈ bs, x < 256) (ad : Option Addr) (c : Nat) (w : World) (hS : IsSt w g gt hs v) (hs0 : Sl w ad .u8 bs) :
    Calls Try.prog 19 #[.pointer (some ⟨g, 0, none⟩), .slice ad bs.length c] w fun e w' => e = .returned (.tuple #[]) ∧ IsSt w' g gt hs (onL hs v (padL bs) ((padL bs).length / 16)) ∧ Ch g w w' := by
  obtain ⟨S0, T0⟩ := hS
  have hpm := padL_mod bs
  have hpl := padL_len bs
  have hpb := padL_lt hbb
  have hX := Gf.dot_lt Gf.pair1 (num_lt hl hb) 1
  have hgl := S0.lt
  have hgt : gt ≠ g := T0.ne_ S0 (by decide)
  have hP0 := padded_c ad c bs (by omega) w hs0
  generalize padL bs = pb at *
  have hL32 : pb.length < 2 ^ 32 := by omega
  clear hpl
  obtain ⟨L, HL⟩ : ∃ L, Hid (pb.length = L) := ⟨_, Lib.hid rfl⟩
  rw [HL.out] at hP0 hpm hL32
  obtain ⟨K, HK⟩ : ∃ K, Hid (L = 16 * K) := ⟨L / 16, Lib.hid (by omega)⟩
  obtain rfl := HK.out
  clear HK
  go_enter Try.func19, Try.ntmps19
  obtain ⟨J, HJ, HI⟩ : ∃ J : Act → World → Prop, Hid (∀ (a : Act) (w' : World), J a w' → ∃ (U : Nat → Value) (i : Nat) (ad' : Option Addr), a = { tmps := #[.pointer (some ⟨g, 0, none⟩), .slice ad' (16 * K - 16 * i) (16 * K - 16 * i), U 2, U 3, U 4, U 5, U 6, U 7, U 8, U 9, U 10, U 11, U 12, U 13, U 14, U 15, U 16, U 17, U 18, U 19, U 20, U 21, U 22, U 23, U 24, U 25, U 26, U 27], defers := [] } ∧ i ≤ K ∧ (i < K → ad' = some ⟨w.heap.size, 16 * i, none⟩) ∧ Blk w' g 60 (stC gt (onL hs v pb i)) ∧ Blk w' gt 70 (ints .u64 (tabL (dot R1 D1 (num hs) 1) 16)) ∧ Blk w' w.heap.size 5 (ints .u8 pb) ∧ Ch g w w') ∧
      Hid (∀ (T : Array Value) (w' : World), (∃ (i : Nat) (ad' : Option Addr), T = #[.pointer (some ⟨g, 0, none⟩), .slice ad' (16 * K - 16 * i) (16 * K - 16 * i), T.getD 2 undef, T.getD 3 undef, T.getD 4 undef, T.getD 5 undef, T.getD 6 undef, T.getD 7 undef, T.getD 8 undef, T.getD 9 undef, T.getD 10 undef, T.getD 11 undef, T.getD 12 undef, T.getD 13 undef, T.getD 14 undef, T.getD 15 undef, T.getD 16 undef, T.getD 17 undef, T.getD 18 undef, T.getD 19 undef, T.getD 20 undef, T.getD 21 undef, T.getD 22 undef, T.getD 23 undef, T.getD 24 undef, T.getD 25 undef, T.getD 26 undef, T.getD 27 undef] ∧ i ≤ K ∧ (i < K → ad' = some ⟨w.heap.size, 16 * i, none⟩) ∧ Blk w' g 60 (stC gt (onL hs v pb i)) ∧ Blk w' gt 70 (ints .u64 (tabL (dot R1 D1 (num hs) 1) 16)) ∧ Blk w' w.heap.size 5 (ints .u8 pb) ∧ Ch g w w') → J { tmps := T, defers := [] } w') :=
    ⟨fun a w' => ∃ (U : Nat → Value) (i : Nat) (ad' : Option Addr), a = { tmps := #[.pointer (some ⟨g, 0, none⟩), .slice ad' (16 * K - 16 * i) (16 * K - 16 * i), U 2, U 3, U 4, U 5, U 6, U 7, U 8, U 9, U 10, U 11, U 12, U 13, U 14, U 15, U 16, U 17, U 18, U 19, U 20, U 21, U 22, U 23, U 24, U 25, U 26, U 27], defers := [] } ∧ i ≤ K ∧ (i < K → ad' = some ⟨w.heap.size, 16 * i, none⟩) ∧ Blk w' g 60 (stC gt (onL hs v pb i)) ∧ Blk w' gt 70 (ints .u64 (tabL (dot R1 D1 (num hs) 1) 16)) ∧ Blk w' w.heap.size 5 (ints .u8 pb) ∧ Ch g w w', Lib.hid fun _ _ h => h, Lib.hid fun T w' ⟨i, ad', h, r⟩ => ⟨fun i => T.getD i undef, i, ad', congrArg (fun T => ({ tmps := T, defers := [] } : Act)) h, r⟩⟩
  obtain ⟨μ, Hμ⟩ : ∃ μ : Act → World → Nat, Hid (∀ a w', μ a w' = lenOf (a.tmps.getD 1 undef)) := ⟨_, Lib.hid fun _ _ => rfl⟩
  refine wp_scope_mid 0 J μ (by simp only [findLabel]; rfl) ?_ ?_
  · intro a wr hj
    obtain ⟨U, i, ad', rfl, hi, had, S1, T1, P1, hch⟩ := HJ.out _ _ hj
    clear hj
    have hμ := Hμ.out
    clear Hμ
    by_cases hlt : i < K
    · obtain rfl := had hlt
      clear had
      have hp1 := P1.lt
      have hne : decide (((16 * K - 16 * i : Nat) : Int) = 0) = false := by simp; omega
      have hvl := onL_len (h := hs) (bs := pb) hv i
      have hvl2 := onL_lt (h := hs) (bs := pb) hvb i
      have hrem : (pb.drop (16 * i)).length = 16 * K - 16 * i := by rw [List.length_drop, HL.out]
      have SB : Sl wr (some ⟨w.heap.size, 16 * i, none⟩) .u8 (pb.drop (16 * i)) := by
        have := (Sl.blk P1).drop (16 * i)
        rwa [Nat.zero_add] at this
      have LX : Hid (∀ W, Below wr.heap.size wr W → Calls Try.prog 34 #[.slice (some ⟨g, 1, none⟩) 16 16, .slice (some ⟨w.heap.size, 16 * i, none⟩) (16 * K - 16 * i) (16 * K - 16 * i)] W fun e w' => e = .returned (.slice (some ⟨W.heap.size, 0, none⟩) 16 16) ∧ Below W.heap.size W w' ∧ Blk w' W.heap.size 5 (ints .u8 (xorL (onL hs v pb i) (blk pb i)))) := Lib.hid fun W hW => by
        have h := xor_c (some ⟨g, 1, none⟩) (some ⟨w.heap.size, 16 * i, none⟩) 16 (16 * K - 16 * i) 16 (onL hs v pb i) (pb.drop (16 * i)) (by omega) hvl (by omega) (by omega) hvl2 (fun x hx => hpb x (List.mem_of_mem_drop hx)) W ((st_sl S1).below hW) (SB.below hW)
        rw [hrem, xorM_blk] at h
        exact h
      have hbl := blk_len (bs := pb) (i := i) (by rw [HL.out]; omega)
      have LD : Hid (∀ W, Below wr.heap.size wr W → Calls Try.prog 32 #[.pointer (some ⟨gt, 0, none⟩), .agg (ints .u8 (xorL (onL hs v pb i) (blk pb i)))] W fun e w' => e = .returned (.agg (ints .u8 (onL hs v pb (i + 1)))) ∧ Below W.heap.size W w') := Lib.hid fun W hW => by
        have h := dotT_c gt (dot R1 D1 (num hs) 1) (xorL (onL hs v pb i) (blk pb i)) hX (xorL_len _ _) (xorL_lt hvl2 (blk_lt hpb i)) W (T1.below' hW)
        rw [tab_dotL hl hb (xorL_len _ _) (xorL_lt hvl2 (blk_lt hpb i))] at h
        exact h
      have cp := st_ptr S1
      have hgr := S1.lt
      have hvn := onL_len (h := hs) (bs := pb) hv (i + 1)
      have Hm := Lib.hid (show 16 * K - 16 * (i + 1) = 16 * K - 16 * i - 16 by omega)
      have hm0 : 16 ≤ 16 * K - 16 * i := by omega
      have hm1 : 16 * K - 16 * i < 2 ^ 32 := by omega
      have Hlast : Hid (16 * K - 16 * i = 16 ↔ i + 1 = K) := Lib.hid (by omega)
      clear hrem hvl2 hbl
      obtain ⟨m, HM⟩ : ∃ m, Hid (16 * K - 16 * i = m) := ⟨_, Lib.hid rfl⟩
      rw [HM.out] at hne LX Hm hm0 hm1 Hlast ⊢
      go_wp2_with fail
      refine wp_region_last2 15 (by kernel_rfl) (by kernel_rfl) (by kernel_rfl) (by kernel_rfl) (fun D a W => ∃ u2 u3 u4 u5 u6 u7 u8 u9 u10 u11 u12 u13 u14 u15 u16 u17 u18 u19 u20 u21 u22 u23 u24 u25 u26 u27 : Value, a = { tmps := #[.pointer (some ⟨g, 0, none⟩), .slice (some ⟨w.heap.size, 16 * i, none⟩) m m, u2, u3, u4, u5, u6, u7, u8, u9, u10, u11, u12, u13, u14, u15, u16, u17, u18, u19, u20, u21, u22, u23, u24, u25, u26, u27], defers := [] } ∧ Below wr.heap.size wr W ∧ (D 0 → u11 = .pointer (some ⟨g, 0, none⟩)) ∧ (D 1 → u12 = .pointer (some ⟨g, 0, none⟩)) ∧ (D 2 → u13 = .pointer (some ⟨g, 0, none⟩)) ∧ (D 3 → u14 = .pointer (some ⟨g, 0, none⟩)) ∧ (D 4 → u15 = .pointer (some ⟨gt, 0, none⟩)) ∧ (D 5 → u16 = .pointer (some ⟨g, 0, none⟩)) ∧ (D 6 → u17 = .pointer (some ⟨g, 0, none⟩)) ∧ (D 7 → u18 = .pointer (some ⟨g, 1, none⟩)) ∧ (D 8 → u19 = .slice (some ⟨g, 1, none⟩) 16 16) ∧ (D 9 → u20 = .slice (some ⟨w.heap.size, 16 * i, none⟩) m m) ∧ (D 10 → AlS W wr.heap.size u21 5 16 .u8 (xorL (onL hs v pb i) (blk pb i))) ∧ (D 11 → u22 = .agg (ints .u8 (xorL (onL hs v pb i) (blk pb i)))) ∧ (D 12 → u23 = .agg (ints .u8 (onL hs v pb (i + 1)))) ∧ (D 13 → u24 = .pointer (some ⟨g, 0, none⟩)) ∧ (D 14 → u25 = .pointer (some ⟨g, 1, none⟩))) ?_ ?_ ?_
      · exact ⟨_, _, _, _, _, _, _, _, _, _, _, _, _, _, _, _, _, _, _, _, _, _, _, _, _, _, rfl, ⟨rfl, rfl, rfl, Nat.le_refl _, fun _ _ => rfl⟩, (fun h => h.elim), (fun h => h.elim), (fun h => h.elim), (fun h => h.elim), (fun h => h.elim), (fun h => h.elim), (fun h => h.elim), (fun h => h.elim), (fun h => h.elim), (fun h => h.elim), (fun h => h.elim), (fun h => h.elim), (fun h => h.elim), (fun h => h.elim), (fun h => h.elim)⟩
      · intro i o hilt hi D a W hI hnD hall
        obtain ⟨u2, u3, u4, u5, u6, u7, u8, u9, u10, u11, u12, u13, u14, u15, u16, u17, u18, u19, u20, u21, u22, u23, u24, u25, u26, u27, rfl, hW, f0, f1, f2, f3, f4, f5, f6, f7, f8, f9, f10, f11, f12, f13, f14⟩ := hI
        rcases i with _ | _ | _ | _ | _ | _ | _ | _ | _ | _ | _ | _ | _ | _ | _ | i
        · simp only [Nat.zero_add, Nat.reduceAdd, List.getElem?_toArray, List.getElem?_cons_succ, List.getElem?_cons_zero, Option.some.injEq] at hi
          subst hi
          refine wpOp_value (v := .pointer (some ⟨g, 0, none⟩)) rfl rfl rfl ?_
          exact ⟨_, _, _, _, _, _, _, _, _, _, _, _, _, _, _, _, _, _, _, _, _, _, _, _, _, _, rfl, hW, (fun _ => rfl), (fun h => f1 (rl h)), (fun h => f2 (rl h)), (fun h => f3 (rl h)), (fun h => f4 (rl h)), (fun h => f5 (rl h)), (fun h => f6 (rl h)), (fun h => f7 (rl h)), (fun h => f8 (rl h)), (fun h => f9 (rl h)), (fun h => f10 (rl h)), (fun h => f11 (rl h)), (fun h => f12 (rl h)), (fun h => f13 (rl h)), (fun h => f14 (rl h))⟩
        · simp only [Nat.zero_add, Nat.reduceAdd, List.getElem?_toArray, List.getElem?_cons_succ, List.getElem?_cons_zero, Option.some.injEq] at hi
          subst hi
          refine wpOp_value (v := .pointer (some ⟨g, 0, none⟩)) rfl rfl rfl ?_
          exact ⟨_, _, _, _, _, _, _, _, _, _, _, _, _, _, _, _, _, _, _, _, _, _, _, _, _, _, rfl, hW, (fun h => f0 (rl h)), (fun _ => rfl), (fun h => f2 (rl h)), (fun h => f3 (rl h)), (fun h => f4 (rl h)), (fun h => f5 (rl h)), (fun h => f6 (rl h)), (fun h => f7 (rl h)), (fun h => f8 (rl h)), (fun h => f9 (rl h)), (fun h => f10 (rl h)), (fun h => f11 (rl h)), (fun h => f12 (rl h)), (fun h => f13 (rl h)), (fun h => f14 (rl h))⟩
        · simp only [Nat.zero_add, Nat.reduceAdd, List.getElem?_toArray, List.getElem?_cons_succ, List.getElem?_cons_zero, Option.some.injEq] at hi
          subst hi
          obtain rfl := f1 (pre_of hall 1 rfl)
          refine wpOp_value (v := .pointer (some ⟨g, 0, none⟩)) rfl rfl (by kernel_rfl) ?_
          exact ⟨_, _, _, _, _, _, _, _, _, _, _, _, _, _, _, _, _, _, _, _, _, _, _, _, _, _, rfl, hW, (fun h => f0 (rl h)), (fun h => f1 (rl h)), (fun _ => rfl), (fun h => f3 (rl h)), (fun h => f4 (rl h)), (fun h => f5 (rl h)), (fun h => f6 (rl h)), (fun h => f7 (rl h)), (fun h => f8 (rl h)), (fun h => f9 (rl h)), (fun h => f10 (rl h)), (fun h => f11 (rl h)), (fun h => f12 (rl h)), (fun h => f13 (rl h)), (fun h => f14 (rl h))⟩
        · simp only [Nat.zero_add, Nat.reduceAdd, List.getElem?_toArray, List.getElem?_cons_succ, List.getElem?_cons_zero, Option.some.injEq] at hi
          subst hi
          obtain rfl := f2 (pre_of hall 2 rfl)
          refine wpOp_value (v := .pointer (some ⟨g, 0, none⟩)) rfl rfl (by kernel_rfl) ?_
          exact ⟨_, _, _, _, _, _, _, _, _, _, _, _, _, _, _, _, _, _, _, _, _, _, _, _, _, _, rfl, hW, (fun h => f0 (rl h)), (fun h => f1 (rl h)), (fun h => f2 (rl h)), (fun _ => rfl), (fun h => f4 (rl h)), (fun h => f5 (rl h)), (fun h => f6 (rl h)), (fun h => f7 (rl h)), (fun h => f8 (rl h)), (fun h => f9 (rl h)), (fun h => f10 (rl h)), (fun h => f11 (rl h)), (fun h => f12 (rl h)), (fun h => f13 (rl h)), (fun h => f14 (rl h))⟩
        · simp only [Nat.zero_add, Nat.reduceAdd, List.getElem?_toArray, List.getElem?_cons_succ, List.getElem?_cons_zero, Option.some.injEq] at hi
          subst hi
          obtain rfl := f3 (pre_of hall 3 rfl)
          refine wpOp_value (v := .pointer (some ⟨gt, 0, none⟩)) rfl rfl (run_cellp rfl rfl Try.underlying57 ((hW.cell (p := ⟨_, _, none⟩) hgr).trans cp)) ?_
          exact ⟨_, _, _, _, _, _, _, _, _, _, _, _, _, _, _, _, _, _, _, _, _, _, _, _, _, _, rfl, hW, (fun h => f0 (rl h)), (fun h => f1 (rl h)), (fun h => f2 (rl h)), (fun h => f3 (rl h)), (fun _ => rfl), (fun h => f5 (rl h)), (fun h => f6 (rl h)), (fun h => f7 (rl h)), (fun h => f8 (rl h)), (fun h => f9 (rl h)), (fun h => f10 (rl h)), (fun h => f11 (rl h)), (fun h => f12 (rl h)), (fun h => f13 (rl h)), (fun h => f14 (rl h))⟩
        · simp only [Nat.zero_add, Nat.reduceAdd, List.getElem?_toArray, List.getElem?_cons_succ, List.getElem?_cons_zero, Option.some.injEq] at hi
          subst hi
          refine wpOp_value (v := .pointer (some ⟨g, 0, none⟩)) rfl rfl rfl ?_
          exact ⟨_, _, _, _, _, _, _, _, _, _, _, _, _, _, _, _, _, _, _, _, _, _, _, _, _, _, rfl, hW, (fun h => f0 (rl h)), (fun h => f1 (rl h)), (fun h => f2 (rl h)), (fun h => f3 (rl h)), (fun h => f4 (rl h)), (fun _ => rfl), (fun h => f6 (rl h)), (fun h => f7 (rl h)), (fun h => f8 (rl h)), (fun h => f9 (rl h)), (fun h => f10 (rl h)), (fun h => f11 (rl h)), (fun h => f12 (rl h)), (fun h => f13 (rl h)), (fun h => f14 (rl h))⟩
        · simp only [Nat.zero_add, Nat.reduceAdd, List.getElem?_toArray, List.getElem?_cons_succ, List.getElem?_cons_zero, Option.some.injEq] at hi
          subst hi
          obtain rfl := f5 (pre_of hall 5 rfl)
          refine wpOp_value (v := .pointer (some ⟨g, 0, none⟩)) rfl rfl (by kernel_rfl) ?_
          exact ⟨_, _, _, _, _, _, _, _, _, _, _, _, _, _, _, _, _, _, _, _, _, _, _, _, _, _, rfl, hW, (fun h => f0 (rl h)), (fun h => f1 (rl h)), (fun h => f2 (rl h)), (fun h => f3 (rl h)), (fun h => f4 (rl h)), (fun h => f5 (rl h)), (fun _ => rfl), (fun h => f7 (rl h)), (fun h => f8 (rl h)), (fun h => f9 (rl h)), (fun h => f10 (rl h)), (fun h => f11 (rl h)), (fun h => f12 (rl h)), (fun h => f13 (rl h)), (fun h => f14 (rl h))⟩
        · simp only [Nat.zero_add, Nat.reduceAdd, List.getElem?_toArray, List.getElem?_cons_succ, List.getElem?_cons_zero, Option.some.injEq] at hi
          subst hi
          obtain rfl := f6 (pre_of hall 6 rfl)
          refine wpOp_value (v := .pointer (some ⟨g, 1, none⟩)) rfl rfl (by kernel_rfl) ?_
          exact ⟨_, _, _, _, _, _, _, _, _, _, _, _, _, _, _, _, _, _, _, _, _, _, _, _, _, _, rfl, hW, (fun h => f0 (rl h)), (fun h => f1 (rl h)), (fun h => f2 (rl h)), (fun h => f3 (rl h)), (fun h => f4 (rl h)), (fun h => f5 (rl h)), (fun h => f6 (rl h)), (fun _ => rfl), (fun h => f8 (rl h)), (fun h => f9 (rl h)), (fun h => f10 (rl h)), (fun h => f11 (rl h)), (fun h => f12 (rl h)), (fun h => f13 (rl h)), (fun h => f14 (rl h))⟩
        · simp only [Nat.zero_add, Nat.reduceAdd, List.getElem?_toArray, List.getElem?_cons_succ, List.getElem?_cons_zero, Option.some.injEq] at hi
          subst hi
          obtain rfl := f7 (pre_of hall 7 rfl)
          refine wpOp_value (v := .slice (some ⟨g, 1, none⟩) 16 16) rfl rfl (by kernel_rfl) ?_
          exact ⟨_, _, _, _, _, _, _, _, _, _, _, _, _, _, _, _, _, _, _, _, _, _, _, _, _, _, rfl, hW, (fun h => f0 (rl h)), (fun h => f1 (rl h)), (fun h => f2 (rl h)), (fun h => f3 (rl h)), (fun h => f4 (rl h)), (fun h => f5 (rl h)), (fun h => f6 (rl h)), (fun h => f7 (rl h)), (fun _ => rfl), (fun h => f9 (rl h)), (fun h => f10 (rl h)), (fun h => f11 (rl h)), (fun h => f12 (rl h)), (fun h => f13 (rl h)), (fun h => f14 (rl h))⟩
        · simp only [Nat.zero_add, Nat.reduceAdd, List.getElem?_toArray, List.getElem?_cons_succ, List.getElem?_cons_zero, Option.some.injEq] at hi
          subst hi
          refine wpOp_value (v := .slice (some ⟨w.heap.size, 16 * i, none⟩) m m) rfl rfl rfl ?_
          exact ⟨_, _, _, _, _, _, _, _, _, _, _, _, _, _, _, _, _, _, _, _, _, _, _, _, _, _, rfl, hW, (fun h => f0 (rl h)), (fun h => f1 (rl h)), (fun h => f2 (rl h)), (fun h => f3 (rl h)), (fun h => f4 (rl h)), (fun h => f5 (rl h)), (fun h => f6 (rl h)), (fun h => f7 (rl h)), (fun h => f8 (rl h)), (fun _ => rfl), (fun h => f10 (rl h)), (fun h => f11 (rl h)), (fun h => f12 (rl h)), (fun h => f13 (rl h)), (fun h => f14 (rl h))⟩
        · simp only [Nat.zero_add, Nat.reduceAdd, List.getElem?_toArray, List.getElem?_cons_succ, List.getElem?_cons_zero, Option.some.injEq] at hi
          subst hi
          obtain rfl := f8 (pre_of hall 8 rfl)
          obtain rfl := f9 (pre_of hall 9 rfl)
          refine wpOp_callB 34 rfl rfl rfl Try.func34 (by kernel_rfl) (by kernel_rfl) (LX.out W hW) ?_
          intro W' hW' hT
          exact ⟨_, _, _, _, _, _, _, _, _, _, _, _, _, _, _, _, _, _, _, _, _, _, _, _, _, _, rfl, bCall hW hW' hW.size, (fun h => f0 (rl h)), (fun h => f1 (rl h)), (fun h => f2 (rl h)), (fun h => f3 (rl h)), (fun h => f4 (rl h)), (fun h => f5 (rl h)), (fun h => f6 (rl h)), (fun h => f7 (rl h)), (fun h => f8 (rl h)), (fun h => f9 (rl h)), (fun _ => ⟨_, rfl, by have := hW.size; omega, xorL_len _ _, hT⟩), (fun h => f11 (rl h)), (fun h => f12 (rl h)), (fun h => f13 (rl h)), (fun h => f14 (rl h))⟩
        · simp only [Nat.zero_add, Nat.reduceAdd, List.getElem?_toArray, List.getElem?_cons_succ, List.getElem?_cons_zero, Option.some.injEq] at hi
          subst hi
          obtain ⟨g_, rfl, hg_, hl_, hB_⟩ := f10 (pre_of hall 10 rfl)
          refine wpOp_call 33 rfl rfl rfl Try.func33 (by kernel_rfl) (by kernel_rfl) (block16_c (some ⟨g_, 0, none⟩) 16 _ (xorL_len _ _) W (Sl.blk hB_)) ?_
          intro W' hW'
          have q10 : AlS W wr.heap.size (.slice (some ⟨g_, 0, none⟩) _ _) _ _ _ _ := ⟨g_, rfl, hg_, hl_, hB_⟩
          exact ⟨_, _, _, _, _, _, _, _, _, _, _, _, _, _, _, _, _, _, _, _, _, _, _, _, _, _, rfl, bCall hW hW' hW.size, (fun h => f0 (rl h)), (fun h => f1 (rl h)), (fun h => f2 (rl h)), (fun h => f3 (rl h)), (fun h => f4 (rl h)), (fun h => f5 (rl h)), (fun h => f6 (rl h)), (fun h => f7 (rl h)), (fun h => f8 (rl h)), (fun h => f9 (rl h)), (fun _ => q10.below hW'), (fun _ => rfl), (fun h => f12 (rl h)), (fun h => f13 (rl h)), (fun h => f14 (rl h))⟩
        · simp only [Nat.zero_add, Nat.reduceAdd, List.getElem?_toArray, List.getElem?_cons_succ, List.getElem?_cons_zero, Option.some.injEq] at hi
          subst hi
          obtain rfl := f4 (pre_of hall 4 rfl)
          obtain rfl := f11 (pre_of hall 11 rfl)
          refine wpOp_call 32 rfl rfl rfl Try.func32 (by kernel_rfl) (by kernel_rfl) (LD.out W hW) ?_
          intro W' hW'
          exact ⟨_, _, _, _, _, _, _, _, _, _, _, _, _, _, _, _, _, _, _, _, _, _, _, _, _, _, rfl, bCall hW hW' hW.size, (fun h => f0 (rl h)), (fun h => f1 (rl h)), (fun h => f2 (rl h)), (fun h => f3 (rl h)), (fun h => f4 (rl h)), (fun h => f5 (rl h)), (fun h => f6 (rl h)), (fun h => f7 (rl h)), (fun h => f8 (rl h)), (fun h => f9 (rl h)), (fun h => (f10 (rl h)).below hW'), (fun h => f11 (rl h)), (fun _ => rfl), (fun h => f13 (rl h)), (fun h => f14 (rl h))⟩
        · simp only [Nat.zero_add, Nat.reduceAdd, List.getElem?_toArray, List.getElem?_cons_succ, List.getElem?_cons_zero, Option.some.injEq] at hi
          subst hi
          obtain rfl := f0 (pre_of hall 0 rfl)
          refine wpOp_value (v := .pointer (some ⟨g, 0, none⟩)) rfl rfl (by kernel_rfl) ?_
          exact ⟨_, _, _, _, _, _, _, _, _, _, _, _, _, _, _, _, _, _, _, _, _, _, _, _, _, _, rfl, hW, (fun h => f0 (rl h)), (fun h => f1 (rl h)), (fun h => f2 (rl h)), (fun h => f3 (rl h)), (fun h => f4 (rl h)), (fun h => f5 (rl h)), (fun h => f6 (rl h)), (fun h => f7 (rl h)), (fun h => f8 (rl h)), (fun h => f9 (rl h)), (fun h => f10 (rl h)), (fun h => f11 (rl h)), (fun h => f12 (rl h)), (fun _ => rfl), (fun h => f14 (rl h))⟩
        · simp only [Nat.zero_add, Nat.reduceAdd, List.getElem?_toArray, List.getElem?_cons_succ, List.getElem?_cons_zero, Option.some.injEq] at hi
          subst hi
          obtain rfl := f13 (pre_of hall 13 rfl)
          refine wpOp_value (v := .pointer (some ⟨g, 1, none⟩)) rfl rfl (by kernel_rfl) ?_
          exact ⟨_, _, _, _, _, _, _, _, _, _, _, _, _, _, _, _, _, _, _, _, _, _, _, _, _, _, rfl, hW, (fun h => f0 (rl h)), (fun h => f1 (rl h)), (fun h => f2 (rl h)), (fun h => f3 (rl h)), (fun h => f4 (rl h)), (fun h => f5 (rl h)), (fun h => f6 (rl h)), (fun h => f7 (rl h)), (fun h => f8 (rl h)), (fun h => f9 (rl h)), (fun h => f10 (rl h)), (fun h => f11 (rl h)), (fun h => f12 (rl h)), (fun h => f13 (rl h)), (fun _ => rfl)⟩
        · exfalso; omega
      · rintro D a W ⟨u2, u3, u4, u5, u6, u7, u8, u9, u10, u11, u12, u13, u14, u15, u16, u17, u18, u19, u20, u21, u22, u23, u24, u25, u26, u27, rfl, hW, f0, f1, f2, f3, f4, f5, f6, f7, f8, f9, f10, f11, f12, f13, f14⟩ hall
        obtain rfl := f0 (hall 0 (by decide))
        obtain rfl := f1 (hall 1 (by decide))
        obtain rfl := f2 (hall 2 (by decide))
        obtain rfl := f3 (hall 3 (by decide))
        obtain rfl := f4 (hall 4 (by decide))
        obtain rfl := f5 (hall 5 (by decide))
        obtain rfl := f6 (hall 6 (by decide))
        obtain rfl := f7 (hall 7 (by decide))
        obtain rfl := f8 (hall 8 (by decide))
        obtain rfl := f9 (hall 9 (by decide))
        obtain rfl := f11 (hall 11 (by decide))
        obtain rfl := f12 (hall 12 (by decide))
        obtain rfl := f13 (hall 13 (by decide))
        obtain rfl := f14 (hall 14 (by decide))
        obtain ⟨g21, rfl, hg21, hl21, hB21⟩ := f10 (hall 10 (by decide))
        clear f0 f1 f2 f3 f4 f5 f6 f7 f8 f9 f10 f11 f12 f13 f14 hall
        refine wpOp_store_part rfl rfl 22 _ _ rfl 1 (vs := vals .u8 (onL hs v pb (i + 1))) rfl rfl (S1.below' hW) rfl Try.ar22 (by rw [vals_len]; exact hvl) (by rw [vals_len]; exact hvn) (vals_one _ _) ?_
        intro w5 S5 F5
        have hch5 := (hch.trans (Ch.of_below hW)).trans (Ch.of_far F5)
        have T5 := F5.blk (T1.below' hW) hgt
        have P5 := F5.blk (P1.below' hW) (show w.heap.size ≠ g by omega)
        clear S1 T1 P1 SB cp hch
        by_cases h16 : m = 16
        · subst h16
          have hK : i + 1 = K := Hlast.out.1 rfl
          go_wp2_with fail
          go_step3
          refine ⟨rfl, HI.out _ _ ⟨i + 1, _, by rw [Hm.out]; rfl, by omega, fun h => absurd h (by omega), S5, T5, P5, hch5⟩, ?_⟩
          rw [hμ, hμ]
          simp [lenOf]
        · have hm2 : 16 < m := by omega
          go_wp2_with fail
          go_step3
          refine ⟨rfl, HI.out _ _ ⟨i + 1, some ⟨w.heap.size, 16 * i + 16, none⟩, by rw [Hm.out]; rfl, by omega, fun _ => by rw [Nat.mul_succ], S5, T5, P5, hch5⟩, ?_⟩
          rw [hμ, hμ]
          simp [lenOf]
          omega
    · obtain rfl : i = K := by omega
      clear had
      rw [Nat.sub_self]
      have HK : Hid (pb.length / 16 = i) := Lib.hid (by rw [HL.out]; omega)
      go_wp2_with fail
      simp only [Exit.jump]
      refine bodyPost_ret (v := .tuple #[]) (by simp [results, Try.results19]) rfl ⟨rfl, ⟨?_, T1⟩, hch⟩
      rw [HK.out]
      exact S1
  · intro hgo
    go_wp2_with fail
    refine hP0.mono ?_
    rintro e w1 ⟨rfl, hb1, P1⟩
    go_wp2_with fail
    refine wp_label ?_
    rename_i hK
    refine hK _ _ ?_
    refine hgo _ _ (HI.out _ _ ⟨0, some ⟨w.heap.size, 0, none⟩, rfl, by omega, fun _ => rfl, S0.below' hb1, T0.below' hb1, P1, Ch.of_below hb1⟩)
end Go.Proofs.Ytckobbddjldflaa
/- State.Value, val.Sum; a State that is none. No condition but that bytes are below 256 and rows shorter than 2^31. -/
namespace Go.Proofs.Ytckobbddjldflaa
set_option linter.unusedSimpArgs false
set_option linter.unusedVariables false
set_option linter.unusedSectionVars false
set_option linter.unusedVariables false
open Go.RowKit
open Gf (W2 up upN mulS mul R1 D1 dot)
set_option maxRecDepth 100000 in
set_option maxHeartbeats 2000000 in
theorem value11_c (g gt : Nat) (v : List Nat) (hv : v.length = 16) (w : World) (S0 : Blk w g 60 (stC gt v)) :
    Calls Try.prog 20 #[.pointer (some ⟨g, 0, none⟩)] w fun e w' => e = .returned (.agg (ints .u8 v)) ∧ Below w.heap.size w w' := by
  have B0 := Blk.new w 22 (ints .u8 (zeros 16))
  have S1 := S0.alloc (.cells (ints .u8 (zeros 16)) 22)
  have hbel := (Below.refl w.heap.size w).alloc (Nat.le_refl _) (.cells (ints .u8 (zeros 16)) 22)
  go_enter Try.func20, Try.ntmps20
  go_wp2_with (first | (refine wpList_alloc_ints rfl 22 rfl Try.z22 ?_; (try simp only [Act.put, List.setIfInBounds_toArray, List.set_cons_zero, List.set_cons_succ, World.size_alloc, setRow_size, Nat.add_assoc, Nat.reduceAdd])) | (refine wpList_load_part (old := vals .u8 v) rfl 22 _ rfl 1 rfl S1 rfl Try.ar22 (by rw [vals_len]; exact hv) ?_; (try simp only [Act.put, List.setIfInBounds_toArray, List.set_cons_zero, List.set_cons_succ, World.size_alloc, setRow_size, Nat.add_assoc, Nat.reduceAdd])) | (refine wpList_store_ints (k := .u8) (xs := v) rfl 22 _ _ rfl w.heap.size rfl rfl B0 (zeros_size _ _) Try.ar22 hv ?_; (try simp only [Act.put, List.setIfInBounds_toArray, List.set_cons_zero, List.set_cons_succ, World.size_alloc, setRow_size, Nat.add_assoc, Nat.reduceAdd])))
  exact ret_ints rfl rfl (B0.row _) Try.ar22 hv ⟨rfl, bSetRow hbel (Nat.le_refl _) _⟩
set_option maxRecDepth 100000 in
set_option maxHeartbeats 2000000 in
theorem valueNil11_c (w : World) :
    Calls Try.prog 20 #[.pointer none] w fun e w' => e = .returned (.agg (ints .u8 (zeros 16))) ∧ Below w.heap.size w w' := by
  have B0 := Blk.new w 22 (ints .u8 (zeros 16))
  have hbel := (Below.refl w.heap.size w).alloc (Nat.le_refl _) (.cells (ints .u8 (zeros 16)) 22)
  have HZ := Lib.hid (show Value.agg #[.int .u8 0, .int .u8 0, .int .u8 0, .int .u8 0, .int .u8 0, .int .u8 0, .int .u8 0, .int .u8 0, .int .u8 0, .int .u8 0, .int .u8 0, .int .u8 0, .int .u8 0, .int .u8 0, .int .u8 0, .int .u8 0] = .agg (ints .u8 (zeros 16)) from rfl)
  go_enter Try.func20, Try.ntmps20
  go_wp2_with (first | (refine wpList_alloc_ints rfl 22 rfl Try.z22 ?_; (try simp only [Act.put, List.setIfInBounds_toArray, List.set_cons_zero, List.set_cons_succ, World.size_alloc, setRow_size, Nat.add_assoc, Nat.reduceAdd])) | (refine wpList_store_ints rfl 22 _ _ rfl w.heap.size (k := .u8) (xs := zeros 16) rfl HZ.out B0 (zeros_size _ _) Try.ar22 (zeros_len _) ?_; (try simp only [Act.put, List.setIfInBounds_toArray, List.set_cons_zero, List.set_cons_succ, World.size_alloc, setRow_size, Nat.add_assoc, Nat.reduceAdd])))
  exact ret_ints rfl rfl (B0.row _) Try.ar22 (zeros_len _) ⟨rfl, bSetRow hbel (Nat.le_refl _) _⟩
set_option maxRecDepth 100000 in
set_option maxHeartbeats 2000000 in
theorem writeNil11_c (v : Value) (w : World) :
    Calls Try.prog 19 #[.pointer none, v] w fun e w' => e = .returned (.tuple #[]) ∧ Below w.heap.size w w' := by
  go_enter Try.func19, Try.ntmps19
  go_wp2
  go_step3
  go_wp2
  rw [Exit.noGoto_ret]
  exact bodyPost_ret (v := .tuple #[]) (by simp [results, Try.results19]) rfl ⟨rfl, Below.refl _ _⟩
set_option maxRecDepth 100000 in
set_option maxHeartbeats 2000000 in
theorem sum11_c (hs bs : List Nat) (hl : hs.length = 16) (hb : ∀ x ∈ hs, x < 256) (hlen : bs.length < 2 ^ 31) (hbb : ∀ x ∈ bs, x < 256) (ad : Option Addr) (c : Nat) (w : World) (hs0 : Sl w ad .u8 bs) :
    Calls Try.prog 11 #[.agg (ints .u8 hs), .slice ad bs.length c] w fun e w' => e = .returned (.agg (ints .u8 (valL hs bs))) ∧ Below w.heap.size w w' := by
  have B0 := (Blk.new w 22 (ints .u8 hs)).alloc (.cells (ints .u8 (zeros 16)) 22)
  have B1 := Blk.new (w.alloc (.cells (ints .u8 hs) 22)) 22 (ints .u8 (zeros 16))
  rw [World.size_alloc] at B1
  have hbel := ((Below.refl w.heap.size w).alloc (Nat.le_refl _) (.cells (ints .u8 hs) 22)).alloc (by simp) (.cells (ints .u8 (zeros 16)) 22)
  have hs1 := hs0.below hbel
  have hvl : (valL hs bs).length = 16 := onL_len (zeros_len _) _
  go_enter Try.func11, Try.ntmps11
  go_wp2_with (first | (refine wpList_alloc_ints rfl 22 rfl Try.z22 ?_; (try simp only [Act.put, List.setIfInBounds_toArray, List.set_cons_zero, List.set_cons_succ, World.size_alloc, setRow_size, Nat.add_assoc, Nat.reduceAdd])) | (refine wpList_load_ints rfl 22 _ rfl w.heap.size rfl B0 Try.ar22 hl ?_; (try simp only [Act.put, List.setIfInBounds_toArray, List.set_cons_zero, List.set_cons_succ, World.size_alloc, setRow_size, Nat.add_assoc, Nat.reduceAdd])))
  generalize ((w.alloc (.cells (ints .u8 hs) 22)).alloc (.cells (ints .u8 (zeros 16)) 22)) = w0 at *
  have hl1 := B1.lt
  refine (new11_c hs hl hb _).mono ?_
  rintro e w1 ⟨g, gt, rfl, hg, hgt, hS, hb1⟩
  have hs2 := hs1.below hb1
  have C1 := B1.below' hb1
  have hbel1 := bCall hbel hb1 hbel.size
  go_wp2_with fail
  refine (write11_c g gt hs (zeros 16) bs hl hb (zeros_len _) (zeros_lt _ (by omega)) hlen hbb ad c _ hS hs2).mono ?_
  rintro e w2 ⟨rfl, hS2, hch⟩
  have D1 := hch.blk C1 (by omega)
  have hbel2 := hch.below hbel1 (by omega) hbel1.size
  go_wp2_with fail
  refine (value11_c g gt _ hvl _ hS2.1).mono ?_
  rintro e w3 ⟨rfl, hb3⟩
  have E1 := D1.below' hb3
  have hbel3 := bCall hbel2 hb3 hbel2.size
  go_wp2_with (refine wpList_store_ints (k := .u8) (xs := valL hs bs) rfl 22 _ _ rfl (w.heap.size + 1) rfl rfl E1 (zeros_size _ _) Try.ar22 hvl ?_; (try simp only [Act.put, List.setIfInBounds_toArray, List.set_cons_zero, List.set_cons_succ, World.size_alloc, setRow_size, Nat.add_assoc, Nat.reduceAdd]))
  exact ret_ints rfl rfl (E1.row _) Try.ar22 hvl ⟨rfl, bSetRow hbel3 (by omega) _⟩
end Go.Proofs.Ytckobbddjldflaa
/- val.Length. No condition but that the length fits. -/
namespace Go.Proofs.Ytckobbddjldflaa
set_option linter.unusedSimpArgs false
set_option linter.unusedVariables false
set_option linter.unusedSectionVars false
set_option linter.unusedVariables false
open Go.RowKit
open Gf (W2 up upN mulS mul R1 D1 dot)
theorem len_or (n k : Nat) (hk : k < 16) : bits BinOp.or IntKind.u64 ((16 * n % 18446744073709551616 : Nat) : Int) ((k : Nat) : Int) = ((16 * n % 18446744073709551616 + k : Nat) : Int) := by
  have e : 16 * n % 18446744073709551616 = 2 ^ 4 * (n % 1152921504606846976) := by omega
  have h := u64_or_nat (16 * n % 18446744073709551616) k (by omega) (by omega)
  rw [h, e, Nat.two_pow_add_eq_or_of_lt hk]
theorem len_row (n : Nat) (b : Bool) : dig 256 8 (16 * n % 18446744073709551616 + (if b then 2 else 3)) ++ dig 256 8 (n / 1152921504606846976) = lenL n b := by
  rw [dig_join' 256 8 8 _ _ (by omega) (by split <;> omega)]
  unfold lenL
  congr 1
  split <;> omega
set_option maxRecDepth 100000 in
set_option maxHeartbeats 2000000 in
theorem length11_c (n : Nat) (hn : n < 2 ^ 63) (b : Bool) (w : World) :
    Calls Try.prog 14 #[.int .i64 n, .bool b] w fun e w' => e = .returned (.agg (ints .u8 (lenL n b))) ∧ Below w.heap.size w w' := by
  have B0 := Blk.new w 22 (ints .u8 (zeros 16))
  have hbel := (Below.refl w.heap.size w).alloc (Nat.le_refl _) (.cells (ints .u8 (zeros 16)) 22)
  have hrow := len_row n b
  have hll := lenL_len n b
  have hcl : (n : Int) ≤ 9223372036854775807 := by omega
  have hq : n / 1152921504606846976 < 18446744073709551616 := by omega
  have hw1 : IntKind.u64.wrap (n : Int) = (n : Int) := by rw [wrapN, Nat.mod_eq_of_lt (by omega)]
  have hw2 : IntKind.u64.wrap ((n : Int) * 16) = ((16 * n % 18446744073709551616 : Nat) : Int) := by
    rw [show (n : Int) * 16 = ((16 * n : Nat) : Int) by omega, wrapN]
  have hd0 : decide ((n : Int) < 0) = false := by simp
  cases b
  · have hx : 16 * n % 18446744073709551616 + 3 < 18446744073709551616 := by omega
    have Hrow := Lib.hid (show dig 256 8 (16 * n % 18446744073709551616 + 3) ++ dig 256 8 (n / 1152921504606846976) = lenL n false from hrow)
    have hor' : bits BinOp.or IntKind.u64 (16 * (n : Int) % 18446744073709551616) 3 = ((16 * n % 18446744073709551616 + 3 : Nat) : Int) := by
      rw [← len_or n 3 (by omega)]; rfl
    have hqI : (n : Int) / 1152921504606846976 = ((n / 1152921504606846976 : Nat) : Int) := by omega
    clear hrow
    have Hor := Lib.hid hor'
    have HqI := Lib.hid hqI
    clear hor' hqI
    go_enter Try.func14, Try.ntmps14
    go_wp2_with (refine wpList_alloc_ints rfl 22 rfl Try.z22 ?_; (try simp only [Act.put, List.setIfInBounds_toArray, List.set_cons_zero, List.set_cons_succ, World.size_alloc, setRow_size, Nat.add_assoc, Nat.reduceAdd]))
    rw [Hor.out, HqI.out]
    generalize 16 * n % 18446744073709551616 + 3 = lo at *
    generalize n / 1152921504606846976 = hi at *
    have hwb := wbytes_c lo hi hx hq (w.alloc (.cells (ints .u8 (zeros 16)) 22))
    rw [Hrow.out] at hwb
    refine hwb.mono ?_
    rintro e w1 ⟨rfl, hb1⟩
    have C0 := B0.below' hb1
    have hbel1 := bCall hbel hb1 hbel.size
    go_wp2_with (refine wpList_store_ints (k := .u8) (xs := lenL n false) rfl 22 _ _ rfl w.heap.size rfl rfl C0 (zeros_size _ _) Try.ar22 hll ?_; (try simp only [Act.put, List.setIfInBounds_toArray, List.set_cons_zero, List.set_cons_succ, World.size_alloc, setRow_size, Nat.add_assoc, Nat.reduceAdd]))
    exact ret_ints rfl rfl (C0.row _) Try.ar22 hll ⟨rfl, bSetRow hbel1 (Nat.le_refl _) _⟩
  · have hx : 16 * n % 18446744073709551616 + 2 < 18446744073709551616 := by omega
    have Hrow := Lib.hid (show dig 256 8 (16 * n % 18446744073709551616 + 2) ++ dig 256 8 (n / 1152921504606846976) = lenL n true from hrow)
    have hor' : bits BinOp.or IntKind.u64 (16 * (n : Int) % 18446744073709551616) 2 = ((16 * n % 18446744073709551616 + 2 : Nat) : Int) := by
      rw [← len_or n 2 (by omega)]; rfl
    have hqI : (n : Int) / 1152921504606846976 = ((n / 1152921504606846976 : Nat) : Int) := by omega
    clear hrow
    have Hor := Lib.hid hor'
    have HqI := Lib.hid hqI
    clear hor' hqI
    go_enter Try.func14, Try.ntmps14
    go_wp2_with (refine wpList_alloc_ints rfl 22 rfl Try.z22 ?_; (try simp only [Act.put, List.setIfInBounds_toArray, List.set_cons_zero, List.set_cons_succ, World.size_alloc, setRow_size, Nat.add_assoc, Nat.reduceAdd]))
    rw [Hor.out, HqI.out]
    generalize 16 * n % 18446744073709551616 + 2 = lo at *
    generalize n / 1152921504606846976 = hi at *
    have hwb := wbytes_c lo hi hx hq (w.alloc (.cells (ints .u8 (zeros 16)) 22))
    rw [Hrow.out] at hwb
    refine hwb.mono ?_
    rintro e w1 ⟨rfl, hb1⟩
    have C0 := B0.below' hb1
    have hbel1 := bCall hbel hb1 hbel.size
    go_wp2_with (refine wpList_store_ints (k := .u8) (xs := lenL n true) rfl 22 _ _ rfl w.heap.size rfl rfl C0 (zeros_size _ _) Try.ar22 hll ?_; (try simp only [Act.put, List.setIfInBounds_toArray, List.set_cons_zero, List.set_cons_succ, World.size_alloc, setRow_size, Nat.add_assoc, Nat.reduceAdd]))
    exact ret_ints rfl rfl (C0.row _) Try.ar22 hll ⟨rfl, bSetRow hbel1 (Nat.le_refl _) _⟩
theorem HZ16 : Hid (Value.agg #[.int .u8 0, .int .u8 0, .int .u8 0, .int .u8 0, .int .u8 0, .int .u8 0, .int .u8 0, .int .u8 0, .int .u8 0, .int .u8 0, .int .u8 0, .int .u8 0, .int .u8 0, .int .u8 0, .int .u8 0, .int .u8 0] = .agg (ints .u8 (zeros 16))) := Lib.hid rfl
set_option maxRecDepth 100000 in
set_option maxHeartbeats 2000000 in
theorem lengthNeg_c (n : Int) (hn : n < 0) (b : Bool) (w : World) :
    Calls Try.prog 14 #[.int .i64 n, .bool b] w fun e w' => e = .returned (.agg (ints .u8 (zeros 16))) ∧ Below w.heap.size w w' := by
  have B0 := Blk.new w 22 (ints .u8 (zeros 16))
  have hbel := (Below.refl w.heap.size w).alloc (Nat.le_refl _) (.cells (ints .u8 (zeros 16)) 22)
  go_enter Try.func14, Try.ntmps14
  go_wp2_with (first | (refine wpList_alloc_ints rfl 22 rfl Try.z22 ?_; (try simp only [Act.put, List.setIfInBounds_toArray, List.set_cons_zero, List.set_cons_succ, World.size_alloc, setRow_size, Nat.add_assoc, Nat.reduceAdd])) | (refine wpList_store_ints rfl 22 _ _ rfl w.heap.size (k := .u8) (xs := zeros 16) rfl HZ16.out B0 (zeros_size _ _) Try.ar22 (zeros_len _) ?_; (try simp only [Act.put, List.setIfInBounds_toArray, List.set_cons_zero, List.set_cons_succ, World.size_alloc, setRow_size, Nat.add_assoc, Nat.reduceAdd])))
  exact ret_ints rfl rfl (B0.row _) Try.ar22 (zeros_len _) ⟨rfl, bSetRow hbel (Nat.le_refl _) _⟩
end Go.Proofs.Ytckobbddjldflaa
/- val.Encode, val.Hash. No condition but that bytes are below 256 and rows shorter than 2^29. -/
namespace Go.Proofs.Ytckobbddjldflaa
set_option linter.unusedSimpArgs false
set_option linter.unusedVariables false
set_option linter.unusedSectionVars false
set_option linter.unusedVariables false
open Go.RowKit
open Gf (W2 up upN mulS mul R1 D1 dot)
theorem msgL_lt {m : List Nat} (hb : ∀ x ∈ m, x < 256) : ∀ x ∈ msgL m, x < 256 := by
  unfold msgL
  split
  · exact hb
  · refine padL_lt fun x hx => ?_
    rcases List.mem_append.1 hx with h | h
    · exact hb x h
    · obtain rfl := List.mem_singleton.1 h; omega
theorem encL_lt {t m : List Nat} (ht : ∀ x ∈ t, x < 256) (hm : ∀ x ∈ m, x < 256) : ∀ x ∈ encL t m, x < 256 := fun x hx => by
  unfold encL at hx
  rcases List.mem_append.1 hx with h | h
  · rcases List.mem_append.1 h with h | h
    · exact lenL_lt _ _ x h
    · exact padL_lt ht x h
  · exact msgL_lt hm x h
theorem msgL_len (m : List Nat) : (msgL m).length ≤ m.length + 17 := by
  unfold msgL
  split
  · omega
  · unfold markL; rw [padL_len, List.length_append]; simp; omega
theorem encL_len (t m : List Nat) : (encL t m).length ≤ t.length + m.length + 64 := by
  unfold encL
  rw [List.length_append, List.length_append, lenL_len, padL_len]
  have := msgL_len m
  omega
/-- The pieces of a row. -/
def encP (t m : List Nat) : List (List Nat) := [lenL t.length (decide (m.length % 16 = 0)), padL t, msgL m]
theorem encP_flat (t m : List Nat) : (encP t m).flatten = encL t m := by simp [encP, encL]
theorem slP {xss : List (List Nat)} {A B C : List Nat} {W : World} {p q : Nat} {a : Option Addr} {c : Nat} (h : xss = [A, B, C]) (h1 : Sl W (some ⟨p, 0, none⟩) .u8 A) (hA : A.length = 16) (h2 : Sl W (some ⟨q, 0, none⟩) .u8 B) (h3 : Sl W a .u8 C) (hc : a = none → c = 0) :
    ∀ i, i < xss.length → ∃ ai ci, [Value.slice (some ⟨p, 0, none⟩) 16 16, .slice (some ⟨q, 0, none⟩) B.length B.length, .slice a C.length c][i]? = some (.slice ai (xss.getD i []).length ci) ∧ Sl W ai .u8 (xss.getD i []) ∧ (ai = none → ci = 0) := by
  subst h
  intro i hi
  match i, hi with
  | 0, _ => exact ⟨_, 16, by rw [← hA]; rfl, h1, fun h => by cases h⟩
  | 1, _ => exact ⟨_, B.length, rfl, h2, fun h => by cases h⟩
  | 2, _ => exact ⟨_, c, rfl, h3, hc⟩
theorem catP {t m : List Nat} {W : World} {B g c : Nat} (hle : (encL t m).length < 2 ^ 31) (hs : SlS W (some ⟨g, 0, none⟩) (encP t m)) (hB : B ≤ W.heap.size) :
    Calls Try.prog 29 #[.slice (some ⟨g, 0, none⟩) (encP t m).length c] W fun e w' => ∃ v, e = .returned v ∧ Own w' B 5 .u8 v (encL t m) ∧ Below W.heap.size W w' := by
  have h := concat_c (some ⟨g, 0, none⟩) c (encP t m) (show 3 < 2 ^ 31 by omega) (by rw [encP_flat]; exact hle) W hs
  rw [encP_flat] at h
  exact h.mono fun e w' ⟨v, h1, h2, h3⟩ => ⟨v, h1, h2.mono hB, h3⟩
set_option maxRecDepth 100000 in
set_option maxHeartbeats 8000000 in
theorem enc11_c (t m : List Nat) (ht : t.length < 2 ^ 29) (hm : m.length < 2 ^ 29) (a1 a2 : Option Addr) (c1 c2 : Nat) (hc2 : a2 = none → c2 = 0) (w : World) (hs1 : Sl w a1 .u8 t) (hs2 : Sl w a2 .u8 m) :
    Calls Try.prog 16 #[.slice a1 t.length c1, .slice a2 m.length c2] w fun e w' => ∃ v, e = .returned v ∧ Own w' w.heap.size 5 .u8 v (encL t m) ∧ Below w.heap.size w w' := by
  have hr : (m.length : Int) % 16 = ((m.length % 16 : Nat) : Int) := by omega
  have hl63 : t.length < 2 ^ 63 := by omega
  have hll := Lib.hid (fun b => lenL_len t.length b)
  by_cases h0 : m.length % 16 = 0
  · have HP : Hid (encP t m = [lenL t.length true, padL t, m]) := Lib.hid (by unfold encP msgL; rw [if_pos h0, decide_eq_true h0])
    rw [h0] at hr
    go_enter Try.func16, Try.ntmps16
    go_wp2_with fail
    refine (length11_c t.length hl63 true _).mono ?_
    rintro e w1 ⟨rfl, hb1⟩
    have C6 := Blk.new w1 22 (ints .u8 (zeros 16))
    have hbel1 := bSetRow (hb1.alloc hb1.size (.cells (ints .u8 (zeros 16)) 22)) hb1.size (ints .u8 (lenL t.length true))
    have L1 := C6.row (ints .u8 (lenL t.length true))
    have hb63 := hll.out true
    go_wp2_with (first | (refine wpList_alloc_ints rfl 22 rfl Try.z22 ?_; (try simp only [Act.put, List.setIfInBounds_toArray, List.set_cons_zero, List.set_cons_succ, World.size_alloc, setRow_size, Nat.add_assoc, Nat.reduceAdd])) | (refine wpList_store_ints (k := .u8) (xs := lenL t.length true) rfl 22 _ _ rfl w1.heap.size rfl rfl C6 (zeros_size _ _) Try.ar22 hb63 ?_; (try simp only [Act.put, List.setIfInBounds_toArray, List.set_cons_zero, List.set_cons_succ, World.size_alloc, setRow_size, Nat.add_assoc, Nat.reduceAdd])))
    generalize ((w1.alloc (.cells (ints .u8 (zeros 16)) 22)).setRow w1.heap.size (ints .u8 (lenL t.length true))) = w2 at *
    have hbel2 := hbel1
    have S1 := hs1.below hbel2
    have M1 := hs2.below hbel2
    have hmc := hc2
    have hle : (encL t m).length < 2 ^ 31 := by have := encL_len t m; omega
    refine wp_region_inv (by kernel_rfl) (by kernel_rfl) (fun D a W => ∃ u2 u3 u4 u5 u7 u8 u9 u10 u11 u12 u13 u14 u15 u16 u17 u18 u19 u20 u21 u22 u23 u24 : Value, a = { tmps := #[.slice a1 t.length c1, .slice a2 m.length c2, u2, u3, u4, u5, .pointer (some ⟨w1.heap.size, 0, none⟩), u7, u8, u9, u10, u11, u12, u13, u14, u15, u16, u17, u18, u19, u20, u21, u22, u23, u24], defers := [] } ∧ Below w2.heap.size w2 W ∧ (D 0 → u19 = .slice (some ⟨w1.heap.size, 0, none⟩) 16 16) ∧ (D 1 → u20 = .slice a1 t.length c1) ∧ (D 2 → AlS W w2.heap.size u21 5 (padL t).length .u8 (padL t)) ∧ (D 3 → u22 = .slice a2 m.length c2) ∧ (D 4 → SlV W u23 (encP t m)) ∧ (D 5 → Own W w2.heap.size 5 .u8 u24 (encL t m)) ∧ (D 6 → Own W w2.heap.size 5 .u8 u4 (encL t m))) ?_ ?_ ?_
    · exact ⟨_, _, _, _, _, _, _, _, _, _, _, _, _, _, _, _, _, _, _, _, _, _, rfl, ⟨rfl, rfl, rfl, Nat.le_refl _, fun _ _ => rfl⟩, (fun h => h.elim), (fun h => h.elim), (fun h => h.elim), (fun h => h.elim), (fun h => h.elim), (fun h => h.elim), (fun h => h.elim)⟩
    · intro i o hi D a W hI hnD hall
      obtain ⟨u2, u3, u4, u5, u7, u8, u9, u10, u11, u12, u13, u14, u15, u16, u17, u18, u19, u20, u21, u22, u23, u24, rfl, hW, f0, f1, f2, f3, f4, f5, f6⟩ := hI
      rcases i with _ | _ | _ | _ | _ | _ | _ | i
      · simp only [Nat.zero_add, Nat.reduceAdd, List.getElem?_toArray, List.getElem?_cons_succ, List.getElem?_cons_zero, Option.some.injEq] at hi
        subst hi
        refine wpOp_value (v := .slice (some ⟨w1.heap.size, 0, none⟩) 16 16) rfl rfl (by kernel_rfl) ?_
        exact ⟨_, _, _, _, _, _, _, _, _, _, _, _, _, _, _, _, _, _, _, _, _, _, rfl, hW, (fun _ => rfl), (fun h => f1 (h.resolve_left (by decide))), (fun h => f2 (h.resolve_left (by decide))), (fun h => f3 (h.resolve_left (by decide))), (fun h => f4 (h.resolve_left (by decide))), (fun h => f5 (h.resolve_left (by decide))), (fun h => f6 (h.resolve_left (by decide)))⟩
      · simp only [Nat.zero_add, Nat.reduceAdd, List.getElem?_toArray, List.getElem?_cons_succ, List.getElem?_cons_zero, Option.some.injEq] at hi
        subst hi
        refine wpOp_value (v := .slice a1 t.length c1) rfl rfl rfl ?_
        exact ⟨_, _, _, _, _, _, _, _, _, _, _, _, _, _, _, _, _, _, _, _, _, _, rfl, hW, (fun h => f0 (h.resolve_left (by decide))), (fun _ => rfl), (fun h => f2 (h.resolve_left (by decide))), (fun h => f3 (h.resolve_left (by decide))), (fun h => f4 (h.resolve_left (by decide))), (fun h => f5 (h.resolve_left (by decide))), (fun h => f6 (h.resolve_left (by decide)))⟩
      · simp only [Nat.zero_add, Nat.reduceAdd, List.getElem?_toArray, List.getElem?_cons_succ, List.getElem?_cons_zero, Option.some.injEq] at hi
        subst hi
        obtain rfl := f1 (pre_of hall 1 rfl)
        refine wpOp_callB 30 rfl rfl rfl Try.func30 (by kernel_rfl) (by kernel_rfl) (padded_c a1 c1 t (by omega) W (S1.below hW)) ?_
        intro W' hW' hT
        exact ⟨_, _, _, _, _, _, _, _, _, _, _, _, _, _, _, _, _, _, _, _, _, _, rfl, bCall hW hW' hW.size, (fun h => f0 (h.resolve_left (by decide))), (fun h => f1 (h.resolve_left (by decide))), (fun _ => ⟨_, rfl, by have := hW.size; omega, rfl, hT⟩), (fun h => f3 (h.resolve_left (by decide))), (fun h => (SlV.below) (f4 (h.resolve_left (by decide))) hW'), (fun h => (Own.below) (f5 (h.resolve_left (by decide))) hW'), (fun h => (Own.below) (f6 (h.resolve_left (by decide))) hW')⟩
      · simp only [Nat.zero_add, Nat.reduceAdd, List.getElem?_toArray, List.getElem?_cons_succ, List.getElem?_cons_zero, Option.some.injEq] at hi
        subst hi
        refine wpOp_value (v := .slice a2 m.length c2) rfl rfl rfl ?_
        exact ⟨_, _, _, _, _, _, _, _, _, _, _, _, _, _, _, _, _, _, _, _, _, _, rfl, hW, (fun h => f0 (h.resolve_left (by decide))), (fun h => f1 (h.resolve_left (by decide))), (fun h => f2 (h.resolve_left (by decide))), (fun _ => rfl), (fun h => f4 (h.resolve_left (by decide))), (fun h => f5 (h.resolve_left (by decide))), (fun h => f6 (h.resolve_left (by decide)))⟩
      · simp only [Nat.zero_add, Nat.reduceAdd, List.getElem?_toArray, List.getElem?_cons_succ, List.getElem?_cons_zero, Option.some.injEq] at hi
        subst hi
        obtain rfl := f0 (pre_of hall 0 rfl)
        obtain rfl := f3 (pre_of hall 3 rfl)
        obtain ⟨g_, rfl, hg_, hl_, hB_⟩ := (f2 (pre_of hall 2 rfl)); refine wpOp_step (v := .slice (some ⟨W.heap.size, 0, none⟩) 3 3) (w' := W.alloc (.cells [Value.slice (some ⟨w1.heap.size, 0, none⟩) 16 16, .slice (some ⟨g_, 0, none⟩) (padL t).length (padL t).length, .slice a2 m.length c2].toArray 23)) rfl rfl (by kernel_rfl) ?_; have hW' : Below W.heap.size W (W.alloc (.cells [Value.slice (some ⟨w1.heap.size, 0, none⟩) 16 16, .slice (some ⟨g_, 0, none⟩) (padL t).length (padL t).length, .slice a2 m.length c2].toArray 23)) := (Below.refl _ _).alloc (Nat.le_refl _) _; have HS := slS_of (xss := encP t m) (Blk.new W 23 [Value.slice (some ⟨w1.heap.size, 0, none⟩) 16 16, .slice (some ⟨g_, 0, none⟩) (padL t).length (padL t).length, .slice a2 m.length c2].toArray) (slP HP.out (((Sl.blk L1).below hW).below hW') (hll.out _) ((Sl.blk hB_).below hW') ((M1.below hW).below hW') hmc)
        exact ⟨_, _, _, _, _, _, _, _, _, _, _, _, _, _, _, _, _, _, _, _, _, _, rfl, bCall hW hW' hW.size, (fun h => f0 (h.resolve_left (by decide))), (fun h => f1 (h.resolve_left (by decide))), (fun h => (f2 (h.resolve_left (by decide))).below hW'), (fun h => f3 (h.resolve_left (by decide))), (fun _ => ⟨_, _, rfl, HS⟩), (fun h => (Own.below) (f5 (h.resolve_left (by decide))) hW'), (fun h => (Own.below) (f6 (h.resolve_left (by decide))) hW')⟩
      · simp only [Nat.zero_add, Nat.reduceAdd, List.getElem?_toArray, List.getElem?_cons_succ, List.getElem?_cons_zero, Option.some.injEq] at hi
        subst hi
        obtain ⟨g2, c2', rfl, hsl2⟩ := (f4 (pre_of hall 4 rfl)); refine wpOp_callX (R := fun v w' => Own w' w2.heap.size 5 .u8 v (encL t m) ∧ Below W.heap.size W w') 29 rfl rfl rfl Try.func29 (by kernel_rfl) (by kernel_rfl) (catP hle hsl2 hW.size) ?_; rintro v W' ⟨hown, hW'⟩
        exact ⟨_, _, _, _, _, _, _, _, _, _, _, _, _, _, _, _, _, _, _, _, _, _, rfl, bCall hW hW' hW.size, (fun h => f0 (h.resolve_left (by decide))), (fun h => f1 (h.resolve_left (by decide))), (fun h => (f2 (h.resolve_left (by decide))).below hW'), (fun h => f3 (h.resolve_left (by decide))), (fun h => (SlV.below) (f4 (h.resolve_left (by decide))) hW'), (fun _ => hown), (fun h => (Own.below) (f6 (h.resolve_left (by decide))) hW')⟩
      · simp only [Nat.zero_add, Nat.reduceAdd, List.getElem?_toArray, List.getElem?_cons_succ, List.getElem?_cons_zero, Option.some.injEq] at hi
        subst hi
        have hx := (f5 (pre_of hall 5 rfl)); refine wpOp_value (v := u24) rfl rfl (by kernel_rfl) ?_; have hW' := Below.refl W.heap.size W
        exact ⟨_, _, _, _, _, _, _, _, _, _, _, _, _, _, _, _, _, _, _, _, _, _, rfl, bCall hW hW' hW.size, (fun h => f0 (h.resolve_left (by decide))), (fun h => f1 (h.resolve_left (by decide))), (fun h => (f2 (h.resolve_left (by decide))).below hW'), (fun h => f3 (h.resolve_left (by decide))), (fun h => (SlV.below) (f4 (h.resolve_left (by decide))) hW'), (fun h => (Own.below) (f5 (h.resolve_left (by decide))) hW'), (fun _ => hx)⟩
      · exfalso; simp at hi
    · rintro D a W ⟨u2, u3, u4, u5, u7, u8, u9, u10, u11, u12, u13, u14, u15, u16, u17, u18, u19, u20, u21, u22, u23, u24, rfl, hW, f0, f1, f2, f3, f4, f5, f6⟩ hall
      obtain rfl := f0 (hall 0 (by decide))
      obtain rfl := f1 (hall 1 (by decide))
      obtain rfl := f3 (hall 3 (by decide))
      have x23 := f4 (hall 4 (by decide))
      have x24 := f5 (hall 5 (by decide))
      have x4 := f6 (hall 6 (by decide))
      obtain ⟨g21, rfl, hg21, hl21, hB21⟩ := f2 (hall 2 (by decide))
      clear f0 f1 f2 f3 hall
      go_wp2_with fail
      go_ret
      exact ⟨_, rfl, x4.mono hbel2.size, bCall hbel2 hW hbel2.size⟩
  · have HP : Hid (encP t m = [lenL t.length false, padL t, padL (m ++ [1])]) := Lib.hid (by unfold encP msgL markL; rw [if_neg h0, decide_eq_false h0])
    have hr2 : (((m.length % 16 : Nat) : Int) == 0) = false := by simp; omega
    generalize m.length % 16 = r at *
    go_enter Try.func16, Try.ntmps16
    go_wp2_with fail
    refine (length11_c t.length hl63 false _).mono ?_
    rintro e w1 ⟨rfl, hb1⟩
    have C6 := Blk.new w1 22 (ints .u8 (zeros 16))
    have hbel1 := bSetRow (hb1.alloc hb1.size (.cells (ints .u8 (zeros 16)) 22)) hb1.size (ints .u8 (lenL t.length false))
    have L1 := C6.row (ints .u8 (lenL t.length false))
    have hb63 := hll.out false
    go_wp2_with (first | (refine wpList_alloc_ints rfl 22 rfl Try.z22 ?_; (try simp only [Act.put, List.setIfInBounds_toArray, List.set_cons_zero, List.set_cons_succ, World.size_alloc, setRow_size, Nat.add_assoc, Nat.reduceAdd])) | (refine wpList_store_ints (k := .u8) (xs := lenL t.length false) rfl 22 _ _ rfl w1.heap.size rfl rfl C6 (zeros_size _ _) Try.ar22 hb63 ?_; (try simp only [Act.put, List.setIfInBounds_toArray, List.set_cons_zero, List.set_cons_succ, World.size_alloc, setRow_size, Nat.add_assoc, Nat.reduceAdd])))
    generalize ((w1.alloc (.cells (ints .u8 (zeros 16)) 22)).setRow w1.heap.size (ints .u8 (lenL t.length false))) = w5 at *
    have hm5 := hs2.below hbel1
    refine (marked_c a2 c2 1 m (by omega) _ hm5).mono ?_
    rintro e w2 ⟨rfl, hb2, M2⟩
    have hbel2 := bCall hbel1 hb2 hbel1.size
    have S1 := hs1.below hbel2
    have M1 := Sl.blk M2
    have L1' := L1.below' hb2
    clear L1
    have L1 := L1'
    have hmc : some (⟨w5.heap.size + 1, 0, none⟩ : Addr) = none → (padL (m ++ [1])).length = 0 := fun h => by cases h
    have hle : (encL t m).length < 2 ^ 31 := by have := encL_len t m; omega
    go_wp2_with fail
    refine wp_region_inv (by kernel_rfl) (by kernel_rfl) (fun D a W => ∃ u2 u3 u4 u5 u7 u8 u9 u10 u11 u12 u13 u14 u15 u16 u17 u18 u19 u20 u21 u22 u23 u24 : Value, a = { tmps := #[.slice a1 t.length c1, .slice (some ⟨w5.heap.size + 1, 0, none⟩) (padL (m ++ [1])).length (padL (m ++ [1])).length, u2, u3, u4, u5, .pointer (some ⟨w1.heap.size, 0, none⟩), u7, u8, u9, u10, u11, u12, u13, u14, u15, u16, u17, u18, u19, u20, u21, u22, u23, u24], defers := [] } ∧ Below w2.heap.size w2 W ∧ (D 0 → u19 = .slice (some ⟨w1.heap.size, 0, none⟩) 16 16) ∧ (D 1 → u20 = .slice a1 t.length c1) ∧ (D 2 → AlS W w2.heap.size u21 5 (padL t).length .u8 (padL t)) ∧ (D 3 → u22 = .slice (some ⟨w5.heap.size + 1, 0, none⟩) (padL (m ++ [1])).length (padL (m ++ [1])).length) ∧ (D 4 → SlV W u23 (encP t m)) ∧ (D 5 → Own W w2.heap.size 5 .u8 u24 (encL t m)) ∧ (D 6 → Own W w2.heap.size 5 .u8 u4 (encL t m))) ?_ ?_ ?_
    · exact ⟨_, _, _, _, _, _, _, _, _, _, _, _, _, _, _, _, _, _, _, _, _, _, rfl, ⟨rfl, rfl, rfl, Nat.le_refl _, fun _ _ => rfl⟩, (fun h => h.elim), (fun h => h.elim), (fun h => h.elim), (fun h => h.elim), (fun h => h.elim), (fun h => h.elim), (fun h => h.elim)⟩
    · intro i o hi D a W hI hnD hall
      obtain ⟨u2, u3, u4, u5, u7, u8, u9, u10, u11, u12, u13, u14, u15, u16, u17, u18, u19, u20, u21, u22, u23, u24, rfl, hW, f0, f1, f2, f3, f4, f5, f6⟩ := hI
      rcases i with _ | _ | _ | _ | _ | _ | _ | i
      · simp only [Nat.zero_add, Nat.reduceAdd, List.getElem?_toArray, List.getElem?_cons_succ, List.getElem?_cons_zero, Option.some.injEq] at hi
        subst hi
        refine wpOp_value (v := .slice (some ⟨w1.heap.size, 0, none⟩) 16 16) rfl rfl (by kernel_rfl) ?_
        exact ⟨_, _, _, _, _, _, _, _, _, _, _, _, _, _, _, _, _, _, _, _, _, _, rfl, hW, (fun _ => rfl), (fun h => f1 (h.resolve_left (by decide))), (fun h => f2 (h.resolve_left (by decide))), (fun h => f3 (h.resolve_left (by decide))), (fun h => f4 (h.resolve_left (by decide))), (fun h => f5 (h.resolve_left (by decide))), (fun h => f6 (h.resolve_left (by decide)))⟩
      · simp only [Nat.zero_add, Nat.reduceAdd, List.getElem?_toArray, List.getElem?_cons_succ, List.getElem?_cons_zero, Option.some.injEq] at hi
        subst hi
        refine wpOp_value (v := .slice a1 t.length c1) rfl rfl rfl ?_
        exact ⟨_, _, _, _, _, _, _, _, _, _, _, _, _, _, _, _, _, _, _, _, _, _, rfl, hW, (fun h => f0 (h.resolve_left (by decide))), (fun _ => rfl), (fun h => f2 (h.resolve_left (by decide))), (fun h => f3 (h.resolve_left (by decide))), (fun h => f4 (h.resolve_left (by decide))), (fun h => f5 (h.resolve_left (by decide))), (fun h => f6 (h.resolve_left (by decide)))⟩
      · simp only [Nat.zero_add, Nat.reduceAdd, List.getElem?_toArray, List.getElem?_cons_succ, List.getElem?_cons_zero, Option.some.injEq] at hi
        subst hi
        obtain rfl := f1 (pre_of hall 1 rfl)
        refine wpOp_callB 30 rfl rfl rfl Try.func30 (by kernel_rfl) (by kernel_rfl) (padded_c a1 c1 t (by omega) W (S1.below hW)) ?_
        intro W' hW' hT
        exact ⟨_, _, _, _, _, _, _, _, _, _, _, _, _, _, _, _, _, _, _, _, _, _, rfl, bCall hW hW' hW.size, (fun h => f0 (h.resolve_left (by decide))), (fun h => f1 (h.resolve_left (by decide))), (fun _ => ⟨_, rfl, by have := hW.size; omega, rfl, hT⟩), (fun h => f3 (h.resolve_left (by decide))), (fun h => (SlV.below) (f4 (h.resolve_left (by decide))) hW'), (fun h => (Own.below) (f5 (h.resolve_left (by decide))) hW'), (fun h => (Own.below) (f6 (h.resolve_left (by decide))) hW')⟩
      · simp only [Nat.zero_add, Nat.reduceAdd, List.getElem?_toArray, List.getElem?_cons_succ, List.getElem?_cons_zero, Option.some.injEq] at hi
        subst hi
        refine wpOp_value (v := .slice (some ⟨w5.heap.size + 1, 0, none⟩) (padL (m ++ [1])).length (padL (m ++ [1])).length) rfl rfl rfl ?_
        exact ⟨_, _, _, _, _, _, _, _, _, _, _, _, _, _, _, _, _, _, _, _, _, _, rfl, hW, (fun h => f0 (h.resolve_left (by decide))), (fun h => f1 (h.resolve_left (by decide))), (fun h => f2 (h.resolve_left (by decide))), (fun _ => rfl), (fun h => f4 (h.resolve_left (by decide))), (fun h => f5 (h.resolve_left (by decide))), (fun h => f6 (h.resolve_left (by decide)))⟩
      · simp only [Nat.zero_add, Nat.reduceAdd, List.getElem?_toArray, List.getElem?_cons_succ, List.getElem?_cons_zero, Option.some.injEq] at hi
        subst hi
        obtain rfl := f0 (pre_of hall 0 rfl)
        obtain rfl := f3 (pre_of hall 3 rfl)
        obtain ⟨g_, rfl, hg_, hl_, hB_⟩ := (f2 (pre_of hall 2 rfl)); refine wpOp_step (v := .slice (some ⟨W.heap.size, 0, none⟩) 3 3) (w' := W.alloc (.cells [Value.slice (some ⟨w1.heap.size, 0, none⟩) 16 16, .slice (some ⟨g_, 0, none⟩) (padL t).length (padL t).length, .slice (some ⟨w5.heap.size + 1, 0, none⟩) (padL (m ++ [1])).length (padL (m ++ [1])).length].toArray 23)) rfl rfl (by kernel_rfl) ?_; have hW' : Below W.heap.size W (W.alloc (.cells [Value.slice (some ⟨w1.heap.size, 0, none⟩) 16 16, .slice (some ⟨g_, 0, none⟩) (padL t).length (padL t).length, .slice (some ⟨w5.heap.size + 1, 0, none⟩) (padL (m ++ [1])).length (padL (m ++ [1])).length].toArray 23)) := (Below.refl _ _).alloc (Nat.le_refl _) _; have HS := slS_of (xss := encP t m) (Blk.new W 23 [Value.slice (some ⟨w1.heap.size, 0, none⟩) 16 16, .slice (some ⟨g_, 0, none⟩) (padL t).length (padL t).length, .slice (some ⟨w5.heap.size + 1, 0, none⟩) (padL (m ++ [1])).length (padL (m ++ [1])).length].toArray) (slP HP.out (((Sl.blk L1).below hW).below hW') (hll.out _) ((Sl.blk hB_).below hW') ((M1.below hW).below hW') hmc)
        exact ⟨_, _, _, _, _, _, _, _, _, _, _, _, _, _, _, _, _, _, _, _, _, _, rfl, bCall hW hW' hW.size, (fun h => f0 (h.resolve_left (by decide))), (fun h => f1 (h.resolve_left (by decide))), (fun h => (f2 (h.resolve_left (by decide))).below hW'), (fun h => f3 (h.resolve_left (by decide))), (fun _ => ⟨_, _, rfl, HS⟩), (fun h => (Own.below) (f5 (h.resolve_left (by decide))) hW'), (fun h => (Own.below) (f6 (h.resolve_left (by decide))) hW')⟩
      · simp only [Nat.zero_add, Nat.reduceAdd, List.getElem?_toArray, List.getElem?_cons_succ, List.getElem?_cons_zero, Option.some.injEq] at hi
        subst hi
        obtain ⟨g2, c2', rfl, hsl2⟩ := (f4 (pre_of hall 4 rfl)); refine wpOp_callX (R := fun v w' => Own w' w2.heap.size 5 .u8 v (encL t m) ∧ Below W.heap.size W w') 29 rfl rfl rfl Try.func29 (by kernel_rfl) (by kernel_rfl) (catP hle hsl2 hW.size) ?_; rintro v W' ⟨hown, hW'⟩
        exact ⟨_, _, _, _, _, _, _, _, _, _, _, _, _, _, _, _, _, _, _, _, _, _, rfl, bCall hW hW' hW.size, (fun h => f0 (h.resolve_left (by decide))), (fun h => f1 (h.resolve_left (by decide))), (fun h => (f2 (h.resolve_left (by decide))).below hW'), (fun h => f3 (h.resolve_left (by decide))), (fun h => (SlV.below) (f4 (h.resolve_left (by decide))) hW'), (fun _ => hown), (fun h => (Own.below) (f6 (h.resolve_left (by decide))) hW')⟩
      · simp only [Nat.zero_add, Nat.reduceAdd, List.getElem?_toArray, List.getElem?_cons_succ, List.getElem?_cons_zero, Option.some.injEq] at hi
        subst hi
        have hx := (f5 (pre_of hall 5 rfl)); refine wpOp_value (v := u24) rfl rfl (by kernel_rfl) ?_; have hW' := Below.refl W.heap.size W
        exact ⟨_, _, _, _, _, _, _, _, _, _, _, _, _, _, _, _, _, _, _, _, _, _, rfl, bCall hW hW' hW.size, (fun h => f0 (h.resolve_left (by decide))), (fun h => f1 (h.resolve_left (by decide))), (fun h => (f2 (h.resolve_left (by decide))).below hW'), (fun h => f3 (h.resolve_left (by decide))), (fun h => (SlV.below) (f4 (h.resolve_left (by decide))) hW'), (fun h => (Own.below) (f5 (h.resolve_left (by decide))) hW'), (fun _ => hx)⟩
      · exfalso; simp at hi
    · rintro D a W ⟨u2, u3, u4, u5, u7, u8, u9, u10, u11, u12, u13, u14, u15, u16, u17, u18, u19, u20, u21, u22, u23, u24, rfl, hW, f0, f1, f2, f3, f4, f5, f6⟩ hall
      obtain rfl := f0 (hall 0 (by decide))
      obtain rfl := f1 (hall 1 (by decide))
      obtain rfl := f3 (hall 3 (by decide))
      have x23 := f4 (hall 4 (by decide))
      have x24 := f5 (hall 5 (by decide))
      have x4 := f6 (hall 6 (by decide))
      obtain ⟨g21, rfl, hg21, hl21, hB21⟩ := f2 (hall 2 (by decide))
      clear f0 f1 f2 f3 hall
      go_wp2_with fail
      go_ret
      exact ⟨_, rfl, x4.mono hbel2.size, bCall hbel2 hW hbel2.size⟩
end Go.Proofs.Ytckobbddjldflaa
/- val.Hash. No condition but that bytes are below 256 and rows shorter than 2^29. -/
namespace Go.Proofs.Ytckobbddjldflaa
set_option linter.unusedSimpArgs false
set_option linter.unusedVariables false
set_option linter.unusedSectionVars false
set_option linter.unusedVariables false
open Go.RowKit
open Gf (W2 up upN mulS mul R1 D1 dot)
theorem sumOwn_c {hs xs : List Nat} (hl : hs.length = 16) (hb : ∀ x ∈ hs, x < 256) (hlen : xs.length < 2 ^ 31) (hbb : ∀ x ∈ xs, x < 256) {W : World} {B : Nat} {v : Value} (ho : Own W B 5 .u8 v xs) :
    Calls Try.prog 11 #[.agg (ints .u8 hs), v] W fun e w' => e = .returned (.agg (ints .u8 (valL hs xs))) ∧ Below W.heap.size W w' := by
  obtain ⟨a, c, rfl, hsl, -, -⟩ := ho.sl
  exact sum11_c hs xs hl hb hlen hbb a c W hsl
theorem encB_c (t m : List Nat) (ht : t.length < 2 ^ 29) (hm : m.length < 2 ^ 29) (a1 a2 : Option Addr) (c1 c2 : Nat) (hc2 : a2 = none → c2 = 0) (B : Nat) (w : World) (hB : B ≤ w.heap.size) (hs1 : Sl w a1 .u8 t) (hs2 : Sl w a2 .u8 m) :
    Calls Try.prog 16 #[.slice a1 t.length c1, .slice a2 m.length c2] w fun e w' => ∃ v, e = .returned v ∧ Own w' B 5 .u8 v (encL t m) ∧ Below w.heap.size w w' :=
  (enc11_c t m ht hm a1 a2 c1 c2 hc2 w hs1 hs2).mono fun e w' ⟨v, h1, h2, h3⟩ => ⟨v, h1, h2.mono hB, h3⟩
set_option maxRecDepth 100000 in
set_option maxHeartbeats 4000000 in
theorem hash11_c (hs t m : List Nat) (hl : hs.length = 16) (hb : ∀ x ∈ hs, x < 256) (ht : t.length < 2 ^ 29) (hm : m.length < 2 ^ 29) (htb : ∀ x ∈ t, x < 256) (hmb : ∀ x ∈ m, x < 256) (a1 a2 : Option Addr) (c1 c2 : Nat) (hc2 : a2 = none → c2 = 0) (w : World) (hs1 : Sl w a1 .u8 t) (hs2 : Sl w a2 .u8 m) :
    Calls Try.prog 22 #[.agg (ints .u8 hs), .slice a1 t.length c1, .slice a2 m.length c2] w fun e w' => e = .returned (.agg (ints .u8 (valL hs (encL t m)))) ∧ Below w.heap.size w w' := by
  have B0 := (Blk.new w 22 (ints .u8 hs)).alloc (.cells (ints .u8 (zeros 16)) 22)
  have B1 := Blk.new (w.alloc (.cells (ints .u8 hs) 22)) 22 (ints .u8 (zeros 16))
  rw [World.size_alloc] at B1
  have hbel := ((Below.refl w.heap.size w).alloc (Nat.le_refl _) (.cells (ints .u8 hs) 22)).alloc (by simp) (.cells (ints .u8 (zeros 16)) 22)
  have S1 := hs1.below hbel
  have S2 := hs2.below hbel
  have hvl : (valL hs (encL t m)).length = 16 := onL_len (zeros_len _) _
  have hle : (encL t m).length < 2 ^ 31 := by have := encL_len t m; omega
  have hel := encL_lt htb hmb
  go_enter Try.func22, Try.ntmps22
  go_wp2_with (refine wpList_alloc_ints rfl 22 rfl Try.z22 ?_; (try simp only [Act.put, List.setIfInBounds_toArray, List.set_cons_zero, List.set_cons_succ, World.size_alloc, setRow_size, Nat.add_assoc, Nat.reduceAdd]))
  generalize ((w.alloc (.cells (ints .u8 hs) 22)).alloc (.cells (ints .u8 (zeros 16)) 22)) = w0 at *
  refine wp_region_last2 5 (by kernel_rfl) (by kernel_rfl) (by kernel_rfl) (by kernel_rfl) (fun D a W => ∃ u4 u5 u7 u8 u9 u10 u11 : Value, a = { tmps := #[.agg (ints .u8 hs), .slice a1 t.length c1, .slice a2 m.length c2, .pointer (some ⟨w.heap.size, 0, none⟩), u4, u5, .pointer (some ⟨w.heap.size + 1, 0, none⟩), u7, u8, u9, u10, u11], defers := [] } ∧ Below w0.heap.size w0 W ∧ (D 0 → u7 = .agg (ints .u8 hs)) ∧ (D 1 → u8 = .slice a1 t.length c1) ∧ (D 2 → u9 = .slice a2 m.length c2) ∧ (D 3 → Own W w0.heap.size 5 .u8 u10 (encL t m)) ∧ (D 4 → u11 = .agg (ints .u8 (valL hs (encL t m))))) ?_ ?_ ?_
  · exact ⟨_, _, _, _, _, _, _, rfl, ⟨rfl, rfl, rfl, Nat.le_refl _, fun _ _ => rfl⟩, (fun h => h.elim), (fun h => h.elim), (fun h => h.elim), (fun h => h.elim), (fun h => h.elim)⟩
  · intro i o hilt hi D a W hI hnD hall
    obtain ⟨u4, u5, u7, u8, u9, u10, u11, rfl, hW, f0, f1, f2, f3, f4⟩ := hI
    rcases i with _ | _ | _ | _ | _ | i
    · simp only [Nat.zero_add, Nat.reduceAdd, List.getElem?_toArray, List.getElem?_cons_succ, List.getElem?_cons_zero, Option.some.injEq] at hi
      subst hi
      refine wpOp_load rfl rfl rfl rfl (B0.below' hW) Try.ar22 hl ?_
      exact ⟨_, _, _, _, _, _, _, rfl, hW, (fun _ => rfl), (fun h => f1 (rl h)), (fun h => f2 (rl h)), (fun h => f3 (rl h)), (fun h => f4 (rl h))⟩
    · simp only [Nat.zero_add, Nat.reduceAdd, List.getElem?_toArray, List.getElem?_cons_succ, List.getElem?_cons_zero, Option.some.injEq] at hi
      subst hi
      refine wpOp_value (v := .slice a1 t.length c1) rfl rfl rfl ?_
      exact ⟨_, _, _, _, _, _, _, rfl, hW, (fun h => f0 (rl h)), (fun _ => rfl), (fun h => f2 (rl h)), (fun h => f3 (rl h)), (fun h => f4 (rl h))⟩
    · simp only [Nat.zero_add, Nat.reduceAdd, List.getElem?_toArray, List.getElem?_cons_succ, List.getElem?_cons_zero, Option.some.injEq] at hi
      subst hi
      refine wpOp_value (v := .slice a2 m.length c2) rfl rfl rfl ?_
      exact ⟨_, _, _, _, _, _, _, rfl, hW, (fun h => f0 (rl h)), (fun h => f1 (rl h)), (fun _ => rfl), (fun h => f3 (rl h)), (fun h => f4 (rl h))⟩
    · simp only [Nat.zero_add, Nat.reduceAdd, List.getElem?_toArray, List.getElem?_cons_succ, List.getElem?_cons_zero, Option.some.injEq] at hi
      subst hi
      obtain rfl := f1 (pre_of hall 1 rfl)
      obtain rfl := f2 (pre_of hall 2 rfl)
      refine wpOp_callX (R := fun v w' => Own w' w0.heap.size 5 .u8 v (encL t m) ∧ Below W.heap.size W w') 16 rfl rfl rfl Try.func16 (by kernel_rfl) (by kernel_rfl) (encB_c t m ht hm a1 a2 c1 c2 hc2 w0.heap.size W hW.size (S1.below hW) (S2.below hW)) ?_; rintro v W' ⟨hown, hW'⟩
      exact ⟨_, _, _, _, _, _, _, rfl, bCall hW hW' hW.size, (fun h => f0 (rl h)), (fun h => f1 (rl h)), (fun h => f2 (rl h)), (fun _ => hown), (fun h => ((fun h _ => h)) (f4 (rl h)) hW')⟩
    · simp only [Nat.zero_add, Nat.reduceAdd, List.getElem?_toArray, List.getElem?_cons_succ, List.getElem?_cons_zero, Option.some.injEq] at hi
      subst hi
      obtain rfl := f0 (pre_of hall 0 rfl)
      have hx := (f3 (pre_of hall 3 rfl)); refine wpOp_call 11 rfl rfl rfl Try.func11 (by kernel_rfl) (by kernel_rfl) (sumOwn_c hl hb hle hel hx) ?_; intro W' hW'
      exact ⟨_, _, _, _, _, _, _, rfl, bCall hW hW' hW.size, (fun h => f0 (rl h)), (fun h => f1 (rl h)), (fun h => f2 (rl h)), (fun h => (Own.below) (f3 (rl h)) hW'), (fun _ => rfl)⟩
    · exfalso; omega
  · rintro D a W ⟨u4, u5, u7, u8, u9, u10, u11, rfl, hW, f0, f1, f2, f3, f4⟩ hall
    obtain rfl := f0 (hall 0 (by decide))
    obtain rfl := f1 (hall 1 (by decide))
    obtain rfl := f2 (hall 2 (by decide))
    have x10 := f3 (hall 3 (by decide))
    have x11 := f4 (hall 4 (by decide))
    clear f0 f1 f2 hall
    obtain rfl := x11
    have K2 := B1.below' hW
    have hbel1 := bCall hbel hW (by have := B1.lt; omega)
    refine wpOp_store rfl rfl rfl rfl rfl K2 (zeros_size _ _) Try.ar22 hvl ?_
    go_wp2
    exact ret_ints rfl rfl (K2.row _) Try.ar22 hvl ⟨rfl, bSetRow hbel1 (by omega) _⟩
end Go.Proofs.Ytckobbddjldflaa
/- wringerref11's On and Sum. No condition but that bytes are below 256 and rows shorter than 2^31. -/
namespace Go.Proofs.Ytckobbddjldflaa
set_option linter.unusedSimpArgs false
set_option linter.unusedVariables false
set_option linter.unusedSectionVars false
set_option linter.unusedVariables false
open Go.RowKit
open Gf (W2 up upN mulS mul R1 D1 dot)
theorem blkR16_c (a : Option Addr) (c : Nat) (bs : List Nat) (hb : ∀ x ∈ bs, x < 256) (hl : bs.length = 16) (w : World) (hs : Sl w a .u8 bs) :
    Calls Try.prog 40 #[.slice a 16 c] w fun e w' => e = .returned (.agg (ints .u8 bs)) ∧ Below w.heap.size w w' := by
  have h := blkR_c a c bs hb (by rw [hl]; decide) w hs
  rw [hl, blockN_same hl] at h
  exact h
theorem xorE_L (xs ys : List Nat) : xorE xs ys = xorL xs ys := rfl
set_option maxRecDepth 100000 in
set_option maxHeartbeats 8000000 in
theorem on_ref (hs v bs : List Nat) (hl : hs.length = 16) (hb : ∀ x ∈ hs, x < 256) (hv : v.length = 16) (hvb : ∀ x ∈ v, x < 256) (hlen : bs.length < 2 ^ 32) (hbb : ∀ x ∈ bs, x < 256) (hm : bs.length % 16 = 0) (ad : Option Addr) (c : Nat) (hcl : bs.length ≤ c) (w : World) (hs0 : Sl w ad .u8 bs) :
    Calls Try.prog 25 #[.agg (ints .u8 hs), .agg (ints .u8 v), .slice ad bs.length c] w fun e w' => e = .returned (.agg (ints .u8 (onL hs v bs (bs.length / 16)))) ∧ Below w.heap.size w w' := by
  obtain ⟨K, hK⟩ : ∃ K, bs.length = 16 * K := ⟨bs.length / 16, by omega⟩
  have HK := Lib.hid hK
  have HKd : Hid (16 * K / 16 = K) := Lib.hid (by omega)
  rw [hK] at hlen hcl ⊢
  clear hK hm
  have B0 := ((Blk.new w 22 (ints .u8 hs)).alloc (.cells (ints .u8 v) 22)).alloc (.cells (ints .u8 (zeros 16)) 22)
  have B1 := (Blk.new (w.alloc (.cells (ints .u8 hs) 22)) 22 (ints .u8 v)).alloc (.cells (ints .u8 (zeros 16)) 22)
  have B2 := Blk.new ((w.alloc (.cells (ints .u8 hs) 22)).alloc (.cells (ints .u8 v) 22)) 22 (ints .u8 (zeros 16))
  rw [World.size_alloc] at B1
  rw [World.size_alloc, World.size_alloc] at B2
  simp only [Nat.add_assoc, Nat.reduceAdd] at B2
  have hbel := (((Below.refl w.heap.size w).alloc (Nat.le_refl _) (.cells (ints .u8 hs) 22)).alloc (by simp) (.cells (ints .u8 v) 22)).alloc (by simp; omega) (.cells (ints .u8 (zeros 16)) 22)
  go_enter Try.func25, Try.ntmps25
  go_wp2_with (refine wpList_alloc_ints rfl 22 rfl Try.z22 ?_; (try simp only [Act.put, List.setIfInBounds_toArray, List.set_cons_zero, List.set_cons_succ, World.size_alloc, setRow_size, Nat.add_assoc, Nat.reduceAdd]))
  generalize (((w.alloc (.cells (ints .u8 hs) 22)).alloc (.cells (ints .u8 v) 22)).alloc (.cells (ints .u8 (zeros 16)) 22)) = w1 at *
  go_loopw [7] (fun t wr => ∃ i : Nat, i ≤ K ∧ t = .int .i64 (16 * (i : Int)) ∧ Blk wr w.heap.size 22 (ints .u8 hs) ∧ Blk wr (w.heap.size + 1) 22 (ints .u8 (onL hs v bs i)) ∧ Blk wr (w.heap.size + 2) 22 (ints .u8 (zeros 16)) ∧ Below w.heap.size w wr) (fun t wr => 16 * K - (intOf t).toNat)
  case atStart => exact ⟨0, by omega, rfl, B0, B1, B2, hbel⟩
  case round =>
    rename_i hrel
    obtain ⟨i, hi, rfl, C0, C1, C2, hbelr⟩ := hrel
    clear B0 B1 B2 hbel
    have hvl := onL_len (h := hs) (bs := bs) hv i
    have hvl2 := onL_lt (h := hs) (bs := bs) hvb i
    by_cases hlt : i < K
    · have hs1 := hs0.below hbelr
      obtain ⟨g, off, rfl, hg, -⟩ := hs1.at_ (i := 0) (by rw [HK.out]; omega)
      have SB : Sl wr (some ⟨g, off + 16 * i, none⟩) .u8 (blk bs i) := (hs1.drop (16 * i)).take 16
      have hbl := blk_len (bs := bs) (i := i) (by rw [HK.out]; omega)
      have hbl2 := blk_lt hbb i
      have hvn := onL_len (h := hs) (bs := bs) hv (i + 1)
      have LD : Hid (∀ W, Calls Try.prog 38 #[.agg (ints .u8 hs), .agg (ints .u8 (xorL (onL hs v bs i) (blk bs i)))] W fun e w' => e = .returned (.agg (ints .u8 (onL hs v bs (i + 1)))) ∧ Below W.heap.size W w') := Lib.hid fun W =>
        dot_ref hs (xorL (onL hs v bs i) (blk bs i)) hl hb (xorL_len _ _) (xorL_lt hvl2 hbl2) W
      have hd0 : decide ((16 * (i : Int)) + 16 ≤ 16 * (K : Int)) = true := by simp; omega
      have hc1 : 16 * i + 16 ≤ c := by omega
      have hw : IntKind.i64.wrap ((16 : Int) * (i : Int) + 16) = ((16 * i + 16 : Nat) : Int) := by rw [IntWalk.i64_in _ (by omega)]; omega
      have Hw := Lib.hid hw
      have Hc := Lib.hid (show (16 : Int) * (i : Int) = ((16 * i : Nat) : Int) by omega)
      have hc2 : 16 * i < c := by omega
      clear hw
      have LB : Hid (∀ W, Below wr.heap.size wr W → Calls Try.prog 40 #[.slice (some ⟨g, off + 16 * i, none⟩) (16 * i + 16 - 16 * i) (c - 16 * i)] W fun e w' => e = .returned (.agg (ints .u8 (blk bs i))) ∧ Below W.heap.size W w') := Lib.hid fun W hW => by
        rw [Nat.add_sub_cancel_left]
        exact blkR16_c (some ⟨g, off + 16 * i, none⟩) (c - 16 * i) _ hbl2 hbl W (SB.below hW)
      go_wp2_with fail
      refine wp_region_last2 10 (by kernel_rfl) (by kernel_rfl) (by kernel_rfl) (by kernel_rfl) (fun D a W => ∃ u8 u9 u10 u11 u12 u13 u14 u15 u16 u17 u18 u19 u20 u21 u22 u23 u24 : Value, a = { tmps := #[.agg (ints .u8 hs), .agg (ints .u8 v), .slice (some ⟨g, off, none⟩) (16 * K) c, .pointer (some ⟨w.heap.size, 0, none⟩), .pointer (some ⟨w.heap.size + 1, 0, none⟩), undef, .pointer (some ⟨w.heap.size + 2, 0, none⟩), .int .i64 (16 * (i : Int)), u8, u9, u10, u11, u12, u13, u14, u15, u16, u17, u18, u19, u20, u21, u22, u23, u24, undef], defers := [] } ∧ Below wr.heap.size wr W ∧ (D 0 → u15 = .agg (ints .u8 hs)) ∧ (D 1 → u16 = .agg (ints .u8 (onL hs v bs i))) ∧ (D 2 → u17 = .slice (some ⟨g, off, none⟩) (16 * K) c) ∧ (D 3 → u18 = .int .i64 (16 * (i : Int))) ∧ (D 4 → u19 = .int .i64 (16 * (i : Int))) ∧ (D 5 → u20 = .int .i64 (IntKind.i64.wrap (16 * (i : Int) + 16))) ∧ (D 6 → u21 = .slice (some ⟨g, off + 16 * i, none⟩) (16 * i + 16 - 16 * i) (c - 16 * i)) ∧ (D 7 → u22 = .agg (ints .u8 (blk bs i))) ∧ (D 8 → u23 = .agg (ints .u8 (xorL (onL hs v bs i) (blk bs i)))) ∧ (D 9 → u24 = .agg (ints .u8 (onL hs v bs (i + 1))))) ?_ ?_ ?_
      · exact ⟨_, _, _, _, _, _, _, _, _, _, _, _, _, _, _, _, _, rfl, ⟨rfl, rfl, rfl, Nat.le_refl _, fun _ _ => rfl⟩, (fun h => h.elim), (fun h => h.elim), (fun h => h.elim), (fun h => h.elim), (fun h => h.elim), (fun h => h.elim), (fun h => h.elim), (fun h => h.elim), (fun h => h.elim), (fun h => h.elim)⟩
      · intro i o hilt hi D a W hI hnD hall
        obtain ⟨u8, u9, u10, u11, u12, u13, u14, u15, u16, u17, u18, u19, u20, u21, u22, u23, u24, rfl, hW, f0, f1, f2, f3, f4, f5, f6, f7, f8, f9⟩ := hI
        rcases i with _ | _ | _ | _ | _ | _ | _ | _ | _ | _ | i
        · simp only [Nat.zero_add, Nat.reduceAdd, List.getElem?_toArray, List.getElem?_cons_succ, List.getElem?_cons_zero, Option.some.injEq] at hi
          subst hi
          refine wpOp_load rfl rfl rfl rfl (C0.below' hW) Try.ar22 hl ?_
          exact ⟨_, _, _, _, _, _, _, _, _, _, _, _, _, _, _, _, _, rfl, hW, (fun _ => rfl), (fun h => f1 (rl h)), (fun h => f2 (rl h)), (fun h => f3 (rl h)), (fun h => f4 (rl h)), (fun h => f5 (rl h)), (fun h => f6 (rl h)), (fun h => f7 (rl h)), (fun h => f8 (rl h)), (fun h => f9 (rl h))⟩
        · simp only [Nat.zero_add, Nat.reduceAdd, List.getElem?_toArray, List.getElem?_cons_succ, List.getElem?_cons_zero, Option.some.injEq] at hi
          subst hi
          refine wpOp_load rfl rfl rfl rfl (C1.below' hW) Try.ar22 hvl ?_
          exact ⟨_, _, _, _, _, _, _, _, _, _, _, _, _, _, _, _, _, rfl, hW, (fun h => f0 (rl h)), (fun _ => rfl), (fun h => f2 (rl h)), (fun h => f3 (rl h)), (fun h => f4 (rl h)), (fun h => f5 (rl h)), (fun h => f6 (rl h)), (fun h => f7 (rl h)), (fun h => f8 (rl h)), (fun h => f9 (rl h))⟩
        · simp only [Nat.zero_add, Nat.reduceAdd, List.getElem?_toArray, List.getElem?_cons_succ, List.getElem?_cons_zero, Option.some.injEq] at hi
          subst hi
          refine wpOp_value (v := .slice (some ⟨g, off, none⟩) (16 * K) c) rfl rfl rfl ?_
          exact ⟨_, _, _, _, _, _, _, _, _, _, _, _, _, _, _, _, _, rfl, hW, (fun h => f0 (rl h)), (fun h => f1 (rl h)), (fun _ => rfl), (fun h => f3 (rl h)), (fun h => f4 (rl h)), (fun h => f5 (rl h)), (fun h => f6 (rl h)), (fun h => f7 (rl h)), (fun h => f8 (rl h)), (fun h => f9 (rl h))⟩
        · simp only [Nat.zero_add, Nat.reduceAdd, List.getElem?_toArray, List.getElem?_cons_succ, List.getElem?_cons_zero, Option.some.injEq] at hi
          subst hi
          refine wpOp_value (v := .int .i64 (16 * (i : Int))) rfl rfl rfl ?_
          exact ⟨_, _, _, _, _, _, _, _, _, _, _, _, _, _, _, _, _, rfl, hW, (fun h => f0 (rl h)), (fun h => f1 (rl h)), (fun h => f2 (rl h)), (fun _ => rfl), (fun h => f4 (rl h)), (fun h => f5 (rl h)), (fun h => f6 (rl h)), (fun h => f7 (rl h)), (fun h => f8 (rl h)), (fun h => f9 (rl h))⟩
        · simp only [Nat.zero_add, Nat.reduceAdd, List.getElem?_toArray, List.getElem?_cons_succ, List.getElem?_cons_zero, Option.some.injEq] at hi
          subst hi
          refine wpOp_value (v := .int .i64 (16 * (i : Int))) rfl rfl rfl ?_
          exact ⟨_, _, _, _, _, _, _, _, _, _, _, _, _, _, _, _, _, rfl, hW, (fun h => f0 (rl h)), (fun h => f1 (rl h)), (fun h => f2 (rl h)), (fun h => f3 (rl h)), (fun _ => rfl), (fun h => f5 (rl h)), (fun h => f6 (rl h)), (fun h => f7 (rl h)), (fun h => f8 (rl h)), (fun h => f9 (rl h))⟩
        · simp only [Nat.zero_add, Nat.reduceAdd, List.getElem?_toArray, List.getElem?_cons_succ, List.getElem?_cons_zero, Option.some.injEq] at hi
          subst hi
          obtain rfl := f4 (pre_of hall 4 rfl)
          refine wpOp_value (v := .int .i64 (IntKind.i64.wrap (16 * (i : Int) + 16))) rfl rfl (by kernel_rfl) ?_
          exact ⟨_, _, _, _, _, _, _, _, _, _, _, _, _, _, _, _, _, rfl, hW, (fun h => f0 (rl h)), (fun h => f1 (rl h)), (fun h => f2 (rl h)), (fun h => f3 (rl h)), (fun h => f4 (rl h)), (fun _ => rfl), (fun h => f6 (rl h)), (fun h => f7 (rl h)), (fun h => f8 (rl h)), (fun h => f9 (rl h))⟩
        · simp only [Nat.zero_add, Nat.reduceAdd, List.getElem?_toArray, List.getElem?_cons_succ, List.getElem?_cons_zero, Option.some.injEq] at hi
          subst hi
          obtain rfl := f2 (pre_of hall 2 rfl)
          obtain rfl := f3 (pre_of hall 3 rfl)
          obtain rfl := f5 (pre_of hall 5 rfl)
          refine wpOp_value (v := .slice (some ⟨g, off + 16 * i, none⟩) (16 * i + 16 - 16 * i) (c - 16 * i)) rfl rfl (run_sliceOp (lo := 16 * i) (hi := 16 * i + 16) Try.underlying23 Try.s15 rfl rfl (congrArg (Value.int IntKind.i64) Hc.out) (congrArg (Value.int IntKind.i64) Hw.out) (Nat.le_add_right _ _) hc1 hc2) ?_
          exact ⟨_, _, _, _, _, _, _, _, _, _, _, _, _, _, _, _, _, rfl, hW, (fun h => f0 (rl h)), (fun h => f1 (rl h)), (fun h => f2 (rl h)), (fun h => f3 (rl h)), (fun h => f4 (rl h)), (fun h => f5 (rl h)), (fun _ => rfl), (fun h => f7 (rl h)), (fun h => f8 (rl h)), (fun h => f9 (rl h))⟩
        · simp only [Nat.zero_add, Nat.reduceAdd, List.getElem?_toArray, List.getElem?_cons_succ, List.getElem?_cons_zero, Option.some.injEq] at hi
          subst hi
          obtain rfl := f6 (pre_of hall 6 rfl)
          refine wpOp_call 40 rfl rfl rfl Try.func40 (by kernel_rfl) (by kernel_rfl) (LB.out W hW) ?_
          intro W' hW'
          exact ⟨_, _, _, _, _, _, _, _, _, _, _, _, _, _, _, _, _, rfl, bCall hW hW' hW.size, (fun h => f0 (rl h)), (fun h => f1 (rl h)), (fun h => f2 (rl h)), (fun h => f3 (rl h)), (fun h => f4 (rl h)), (fun h => f5 (rl h)), (fun h => f6 (rl h)), (fun _ => rfl), (fun h => f8 (rl h)), (fun h => f9 (rl h))⟩
        · simp only [Nat.zero_add, Nat.reduceAdd, List.getElem?_toArray, List.getElem?_cons_succ, List.getElem?_cons_zero, Option.some.injEq] at hi
          subst hi
          obtain rfl := f1 (pre_of hall 1 rfl)
          obtain rfl := f7 (pre_of hall 7 rfl)
          refine wpOp_call 39 rfl rfl rfl Try.func39 (by kernel_rfl) (by kernel_rfl) (sixR_c _ _ hvl hvl2 hbl hbl2 W) ?_
          intro W' hW'
          exact ⟨_, _, _, _, _, _, _, _, _, _, _, _, _, _, _, _, _, rfl, bCall hW hW' hW.size, (fun h => f0 (rl h)), (fun h => f1 (rl h)), (fun h => f2 (rl h)), (fun h => f3 (rl h)), (fun h => f4 (rl h)), (fun h => f5 (rl h)), (fun h => f6 (rl h)), (fun h => f7 (rl h)), (fun _ => rfl), (fun h => f9 (rl h))⟩
        · simp only [Nat.zero_add, Nat.reduceAdd, List.getElem?_toArray, List.getElem?_cons_succ, List.getElem?_cons_zero, Option.some.injEq] at hi
          subst hi
          obtain rfl := f0 (pre_of hall 0 rfl)
          obtain rfl := f8 (pre_of hall 8 rfl)
          refine wpOp_call 38 rfl rfl rfl Try.func38 (by kernel_rfl) (by kernel_rfl) (LD.out W) ?_
          intro W' hW'
          exact ⟨_, _, _, _, _, _, _, _, _, _, _, _, _, _, _, _, _, rfl, bCall hW hW' hW.size, (fun h => f0 (rl h)), (fun h => f1 (rl h)), (fun h => f2 (rl h)), (fun h => f3 (rl h)), (fun h => f4 (rl h)), (fun h => f5 (rl h)), (fun h => f6 (rl h)), (fun h => f7 (rl h)), (fun h => f8 (rl h)), (fun _ => rfl)⟩
        · exfalso; omega
      · rintro D a W ⟨u8, u9, u10, u11, u12, u13, u14, u15, u16, u17, u18, u19, u20, u21, u22, u23, u24, rfl, hW, f0, f1, f2, f3, f4, f5, f6, f7, f8, f9⟩ hall
        obtain rfl := f0 (hall 0 (by decide))
        obtain rfl := f1 (hall 1 (by decide))
        obtain rfl := f2 (hall 2 (by decide))
        obtain rfl := f3 (hall 3 (by decide))
        obtain rfl := f4 (hall 4 (by decide))
        obtain rfl := f5 (hall 5 (by decide))
        obtain rfl := f6 (hall 6 (by decide))
        obtain rfl := f7 (hall 7 (by decide))
        obtain rfl := f8 (hall 8 (by decide))
        obtain rfl := f9 (hall 9 (by decide))
        clear f0 f1 f2 f3 f4 f5 f6 f7 f8 f9 hall
        have E1' := C1.below' hW
        have E1 := E1'.row (ints .u8 (onL hs v bs (i + 1)))
        have E0 := (C0.below' hW).rowFar (show w.heap.size ≠ w.heap.size + 1 by omega) (ints .u8 (onL hs v bs (i + 1)))
        have E2 := (C2.below' hW).rowFar (show w.heap.size + 2 ≠ w.heap.size + 1 by omega) (ints .u8 (onL hs v bs (i + 1)))
        have hbel2 := bSetRow (bCall hbelr hW hbelr.size) (show w.heap.size ≤ w.heap.size + 1 by omega) (ints .u8 (onL hs v bs (i + 1)))
        refine wpOp_store rfl rfl rfl rfl rfl E1' (by rw [ints_size, hvl]) Try.ar22 hvn ?_
        go_wp2_with fail
        exact ⟨⟨i + 1, by omega, by rw [show ((i + 1 : Nat) : Int) = (i : Int) + 1 by omega, Int.mul_add]; rfl, E0, E1, E2, hbel2⟩, by simp [intOf] <;> omega⟩
    · obtain rfl : i = K := by omega
      have hd0 : decide ((16 * (i : Int)) + 16 ≤ 16 * (i : Int)) = false := by simp; omega
      go_wp2_with (first | (refine wpList_load_ints rfl 22 _ rfl (w.heap.size + 1) rfl C1 Try.ar22 hvl ?_; (try simp only [Act.put, List.setIfInBounds_toArray, List.set_cons_zero, List.set_cons_succ, World.size_alloc, setRow_size, Nat.add_assoc, Nat.reduceAdd])) | (refine wpList_store_ints rfl 22 _ _ rfl (w.heap.size + 2) rfl rfl C2 (zeros_size _ _) Try.ar22 hvl ?_; (try simp only [Act.put, List.setIfInBounds_toArray, List.set_cons_zero, List.set_cons_succ, World.size_alloc, setRow_size, Nat.add_assoc, Nat.reduceAdd])))
      exact ret_ints rfl rfl (C2.row _) Try.ar22 hvl ⟨by rw [HKd.out], bSetRow hbelr (by omega) _⟩
end Go.Proofs.Ytckobbddjldflaa
/- wringerref11.Length. No condition but that the length fits. -/
namespace Go.Proofs.Ytckobbddjldflaa
set_option linter.unusedSimpArgs false
set_option linter.unusedVariables false
set_option linter.unusedSectionVars false
set_option linter.unusedVariables false
open Go.RowKit
theorem carry_lt (n kind k : Nat) (hk : kind < 4) : (kind + 16 * (n % 256 ^ k)) / 256 ^ k < 16 := by
  have hK : 0 < 256 ^ k := Nat.pow_pos (by omega)
  rw [Nat.div_lt_iff_lt_mul hK]
  have := Nat.mod_lt n hK
  omega
theorem len_digit (n : Nat) (b : Bool) {k : Nat} (hk : k < 16) : (lenL n b).getD k 0 = (16 * n + if b then 2 else 3) / 256 ^ k % 256 := dig_getD 256 16 _ k hk
set_option maxRecDepth 100000 in
set_option maxHeartbeats 8000000 in
theorem length_ref (n : Nat) (hn : n < 2 ^ 63) (b : Bool) (w : World) :
    Calls Try.prog 15 #[.int .i64 n, .bool b] w fun e w' => e = .returned (.agg (ints .u8 (lenL n b))) ∧ Below w.heap.size w w' := by
  have B1 := (Blk.new w 22 (ints .u8 (zeros 16))).alloc (.cells (ints .u8 (zeros 16)) 22)
  have B2 := Blk.new (w.alloc (.cells (ints .u8 (zeros 16)) 22)) 22 (ints .u8 (zeros 16))
  rw [World.size_alloc] at B2
  have hbel := ((Below.refl w.heap.size w).alloc (Nat.le_refl _) (.cells (ints .u8 (zeros 16)) 22)).alloc (by simp) (.cells (ints .u8 (zeros 16)) 22)
  have hll := lenL_len n b
  have hn63 : (n : Int) ≤ 9223372036854775807 := by omega
  have hn64 : Hid (n < 2 ^ 64) := Lib.hid (by omega)
  clear hn
  cases b
  · have HD := Lib.hid (fun (k : Nat) (hk : k < 16) => len_digit n false hk)
    go_enter Try.func15, Try.ntmps15
    go_wp2_with (refine wpList_alloc_ints rfl 22 rfl Try.z22 ?_; (try simp only [Act.put, List.setIfInBounds_toArray, List.set_cons_zero, List.set_cons_succ, World.size_alloc, setRow_size, Nat.add_assoc, Nat.reduceAdd]))
    generalize ((w.alloc (.cells (ints .u8 (zeros 16)) 22)).alloc (.cells (ints .u8 (zeros 16)) 22)) = w1 at *
    go_loopw [6, 7] (fun c t wr => ∃ k : Nat, k ≤ 16 ∧ t = .int .i64 k ∧ c = .int .i64 (((3 + 16 * (n % 256 ^ k)) / 256 ^ k : Nat) : Int) ∧ Blk wr w.heap.size 22 (ints .u8 (zeros 16)) ∧ Blk wr (w.heap.size + 1) 22 (ints .u8 ((lenL n false).take k ++ zeros (16 - k))) ∧ Below w.heap.size w wr) (fun c t wr => 16 - (intOf t).toNat)
    case atStart => exact ⟨0, by omega, rfl, by simp [Nat.mod_one], B1, B2, hbel⟩
    case round =>
      rename_i hrel
      obtain ⟨k, hk, rfl, rfl, C1, C2, hbelr⟩ := hrel
      clear B1 B2 hbel
      by_cases hlt : k < 16
      · have hkl : ((lenL n false).take k ++ zeros (16 - k)).length = 16 := by rw [List.length_append, List.length_take, hll, zeros_len]; omega
        have hcy := carry_lt n 3 k (by omega)
        have hv : (lenL n false).getD k 0 = (16 * n + 3) / 256 ^ k % 256 := HD.out k hlt
        rw [← carry_digit] at hv
        have HC := Lib.hid (take_set hll hlt hv)
        have HN := Lib.hid (carry_next n 3 k)
        have hlo : n / 256 ^ k % 256 < 256 := Nat.mod_lt _ (by omega)
        have hz : 8 ≤ k → n / 256 ^ k % 256 = 0 := carry_low n k hn64.out
        have hq : (n : Int) / 2 ^ (8 * k) = ((n / 256 ^ k : Nat) : Int) := by
          rw [show (256 : Nat) ^ k = 2 ^ (8 * k) by rw [Nat.pow_mul]]; simp
        have hqb : n / 256 ^ k ≤ n := Nat.div_le_self _ _
        clear hv
        generalize (3 + 16 * (n % 256 ^ k)) / 256 ^ k = cy at *
        generalize n / 256 ^ k = q at *
        have hd0 : decide ((k : Int) < 16) = true := by simp; omega
        by_cases h8 : k < 8
        · clear hz
          have hd1 : decide ((k : Int) < 8) = true := by simp; omega
          have hqm : (q : Int) % 256 = ((q % 256 : Nat) : Int) := by omega
          generalize q % 256 = lo at *
          go_wp2_with (refine wpList_store_one rfl 5 _ _ rfl Try.one8r C2 k ((cy + 16 * lo) % 256) rfl (congrArg (Value.int IntKind.u8) (show ((cy : Int) + (lo : Int) * 16) % 256 = (((cy + 16 * lo) % 256 : Nat) : Int) by omega)) (by omega) ?_; intro w2 E2 F2; rw [HC.out] at E2; (try simp only [Act.put, List.setIfInBounds_toArray, List.set_cons_zero, List.set_cons_succ, World.size_alloc, setRow_size, Nat.add_assoc, Nat.reduceAdd]))
          exact ⟨⟨k + 1, by omega, by go_num, by rw [← HN.out]; congr 1; omega, F2.blk C1 (by omega), E2, F2.below hbelr (by omega)⟩, by simp [intOf] <;> omega⟩
        · have hz0 := hz (by omega)
          rw [hz0, Nat.mul_zero, Nat.add_zero] at HC HN
          clear hz hz0 hq hqb hlo
          have hd1 : decide ((k : Int) < 8) = false := by simp; omega
          go_wp2_with (refine wpList_store_one rfl 5 _ _ rfl Try.one8r C2 k (cy % 256) rfl (congrArg (Value.int IntKind.u8) (show (cy : Int) % 256 = ((cy % 256 : Nat) : Int) by omega)) (by omega) ?_; intro w2 E2 F2; rw [HC.out] at E2; (try simp only [Act.put, List.setIfInBounds_toArray, List.set_cons_zero, List.set_cons_succ, World.size_alloc, setRow_size, Nat.add_assoc, Nat.reduceAdd]))
          exact ⟨⟨k + 1, by omega, by go_num, by rw [← HN.out]; congr 1, F2.blk C1 (by omega), E2, F2.below hbelr (by omega)⟩, by simp [intOf] <;> omega⟩
      · obtain rfl : k = 16 := by omega
        have he : (lenL n false).take 16 ++ zeros (16 - 16) = lenL n false := by rw [List.take_of_length_le (by omega)]; simp [zeros]
        rw [he] at C2
        clear HD
        generalize (3 + 16 * (n % 256 ^ 16)) / 256 ^ 16 = cy at *
        have hd0 : decide ((16 : Int) < 16) = false := by decide
        go_wp2_with (first | (refine wpList_load_ints rfl 22 _ rfl (w.heap.size + 1) rfl C2 Try.ar22 hll ?_; (try simp only [Act.put, List.setIfInBounds_toArray, List.set_cons_zero, List.set_cons_succ, World.size_alloc, setRow_size, Nat.add_assoc, Nat.reduceAdd])) | (refine wpList_store_ints rfl 22 _ _ rfl w.heap.size rfl rfl C1 (zeros_size _ _) Try.ar22 hll ?_; (try simp only [Act.put, List.setIfInBounds_toArray, List.set_cons_zero, List.set_cons_succ, World.size_alloc, setRow_size, Nat.add_assoc, Nat.reduceAdd])))
        exact ret_ints rfl rfl (C1.row _) Try.ar22 hll ⟨rfl, bSetRow hbelr (by omega) _⟩
  · have HD := Lib.hid (fun (k : Nat) (hk : k < 16) => len_digit n true hk)
    go_enter Try.func15, Try.ntmps15
    go_wp2_with (refine wpList_alloc_ints rfl 22 rfl Try.z22 ?_; (try simp only [Act.put, List.setIfInBounds_toArray, List.set_cons_zero, List.set_cons_succ, World.size_alloc, setRow_size, Nat.add_assoc, Nat.reduceAdd]))
    generalize ((w.alloc (.cells (ints .u8 (zeros 16)) 22)).alloc (.cells (ints .u8 (zeros 16)) 22)) = w1 at *
    go_loopw [6, 7] (fun c t wr => ∃ k : Nat, k ≤ 16 ∧ t = .int .i64 k ∧ c = .int .i64 (((2 + 16 * (n % 256 ^ k)) / 256 ^ k : Nat) : Int) ∧ Blk wr w.heap.size 22 (ints .u8 (zeros 16)) ∧ Blk wr (w.heap.size + 1) 22 (ints .u8 ((lenL n true).take k ++ zeros (16 - k))) ∧ Below w.heap.size w wr) (fun c t wr => 16 - (intOf t).toNat)
    case atStart => exact ⟨0, by omega, rfl, by simp [Nat.mod_one], B1, B2, hbel⟩
    case round =>
      rename_i hrel
      obtain ⟨k, hk, rfl, rfl, C1, C2, hbelr⟩ := hrel
      clear B1 B2 hbel
      by_cases hlt : k < 16
      · have hkl : ((lenL n true).take k ++ zeros (16 - k)).length = 16 := by rw [List.length_append, List.length_take, hll, zeros_len]; omega
        have hcy := carry_lt n 2 k (by omega)
        have hv : (lenL n true).getD k 0 = (16 * n + 2) / 256 ^ k % 256 := HD.out k hlt
        rw [← carry_digit] at hv
        have HC := Lib.hid (take_set hll hlt hv)
        have HN := Lib.hid (carry_next n 2 k)
        have hlo : n / 256 ^ k % 256 < 256 := Nat.mod_lt _ (by omega)
        have hz : 8 ≤ k → n / 256 ^ k % 256 = 0 := carry_low n k hn64.out
        have hq : (n : Int) / 2 ^ (8 * k) = ((n / 256 ^ k : Nat) : Int) := by
          rw [show (256 : Nat) ^ k = 2 ^ (8 * k) by rw [Nat.pow_mul]]; simp
        have hqb : n / 256 ^ k ≤ n := Nat.div_le_self _ _
        clear hv
        generalize (2 + 16 * (n % 256 ^ k)) / 256 ^ k = cy at *
        generalize n / 256 ^ k = q at *
        have hd0 : decide ((k : Int) < 16) = true := by simp; omega
        by_cases h8 : k < 8
        · clear hz
          have hd1 : decide ((k : Int) < 8) = true := by simp; omega
          have hqm : (q : Int) % 256 = ((q % 256 : Nat) : Int) := by omega
          generalize q % 256 = lo at *
          go_wp2_with (refine wpList_store_one rfl 5 _ _ rfl Try.one8r C2 k ((cy + 16 * lo) % 256) rfl (congrArg (Value.int IntKind.u8) (show ((cy : Int) + (lo : Int) * 16) % 256 = (((cy + 16 * lo) % 256 : Nat) : Int) by omega)) (by omega) ?_; intro w2 E2 F2; rw [HC.out] at E2; (try simp only [Act.put, List.setIfInBounds_toArray, List.set_cons_zero, List.set_cons_succ, World.size_alloc, setRow_size, Nat.add_assoc, Nat.reduceAdd]))
          exact ⟨⟨k + 1, by omega, by go_num, by rw [← HN.out]; congr 1; omega, F2.blk C1 (by omega), E2, F2.below hbelr (by omega)⟩, by simp [intOf] <;> omega⟩
        · have hz0 := hz (by omega)
          rw [hz0, Nat.mul_zero, Nat.add_zero] at HC HN
          clear hz hz0 hq hqb hlo
          have hd1 : decide ((k : Int) < 8) = false := by simp; omega
          go_wp2_with (refine wpList_store_one rfl 5 _ _ rfl Try.one8r C2 k (cy % 256) rfl (congrArg (Value.int IntKind.u8) (show (cy : Int) % 256 = ((cy % 256 : Nat) : Int) by omega)) (by omega) ?_; intro w2 E2 F2; rw [HC.out] at E2; (try simp only [Act.put, List.setIfInBounds_toArray, List.set_cons_zero, List.set_cons_succ, World.size_alloc, setRow_size, Nat.add_assoc, Nat.reduceAdd]))
          exact ⟨⟨k + 1, by omega, by go_num, by rw [← HN.out]; congr 1, F2.blk C1 (by omega), E2, F2.below hbelr (by omega)⟩, by simp [intOf] <;> omega⟩
      · obtain rfl : k = 16 := by omega
        have he : (lenL n true).take 16 ++ zeros (16 - 16) = lenL n true := by rw [List.take_of_length_le (by omega)]; simp [zeros]
        rw [he] at C2
        clear HD
        generalize (2 + 16 * (n % 256 ^ 16)) / 256 ^ 16 = cy at *
        have hd0 : decide ((16 : Int) < 16) = false := by decide
        go_wp2_with (first | (refine wpList_load_ints rfl 22 _ rfl (w.heap.size + 1) rfl C2 Try.ar22 hll ?_; (try simp only [Act.put, List.setIfInBounds_toArray, List.set_cons_zero, List.set_cons_succ, World.size_alloc, setRow_size, Nat.add_assoc, Nat.reduceAdd])) | (refine wpList_store_ints rfl 22 _ _ rfl w.heap.size rfl rfl C1 (zeros_size _ _) Try.ar22 hll ?_; (try simp only [Act.put, List.setIfInBounds_toArray, List.set_cons_zero, List.set_cons_succ, World.size_alloc, setRow_size, Nat.add_assoc, Nat.reduceAdd])))
        exact ret_ints rfl rfl (C1.row _) Try.ar22 hll ⟨rfl, bSetRow hbelr (by omega) _⟩
end Go.Proofs.Ytckobbddjldflaa
/- wringerref11's Sum, Encode, Hash. No condition but that bytes are below 256 and rows shorter than 2^29. -/
namespace Go.Proofs.Ytckobbddjldflaa
set_option linter.unusedSimpArgs false
set_option linter.unusedVariables false
set_option linter.unusedSectionVars false
set_option linter.unusedVariables false
open Go.RowKit
open Gf (W2 up upN mulS mul R1 D1 dot)
theorem padB_c (a : Option Addr) (c : Nat) (bs : List Nat) (hc : a = none → c = 0) (hlen : bs.length < 2 ^ 32) (B : Nat) (w : World) (hB : B ≤ w.heap.size) (hs : Sl w a .u8 bs) :
    Calls Try.prog 26 #[.slice a bs.length c, .int .i64 16] w fun e w' => ∃ v, e = .returned v ∧ Own w' B 5 .u8 v (padL bs) ∧ Below w.heap.size w w' :=
  (padR_c a c bs hc hlen w hs).mono fun e w' ⟨v, h1, h2, h3⟩ => ⟨v, h1, h2.mono hB, h3⟩
theorem onOwn_c {hs xs : List Nat} (hl : hs.length = 16) (hb : ∀ x ∈ hs, x < 256) (hlen : xs.length < 2 ^ 32) (hbb : ∀ x ∈ xs, x < 256) (hm : xs.length % 16 = 0) {W : World} {B : Nat} {v : Value} (ho : Own W B 5 .u8 v xs) :
    Calls Try.prog 25 #[.agg (ints .u8 hs), .agg (ints .u8 (zeros 16)), v] W fun e w' => e = .returned (.agg (ints .u8 (onL hs (zeros 16) xs (xs.length / 16)))) ∧ Below W.heap.size W w' := by
  obtain ⟨a, c, rfl, hsl, hc, -⟩ := ho.sl
  exact on_ref hs (zeros 16) xs hl hb (zeros_len _) (zeros_lt _ (by omega)) hlen hbb hm a c hc W hsl
set_option maxRecDepth 100000 in
set_option maxHeartbeats 4000000 in
theorem sum_ref (hs bs : List Nat) (hl : hs.length = 16) (hb : ∀ x ∈ hs, x < 256) (hlen : bs.length < 2 ^ 31) (hbb : ∀ x ∈ bs, x < 256) (ad : Option Addr) (c : Nat) (hc : ad = none → c = 0) (w : World) (hs0 : Sl w ad .u8 bs) :
    Calls Try.prog 12 #[.agg (ints .u8 hs), .slice ad bs.length c] w fun e w' => e = .returned (.agg (ints .u8 (valL hs bs))) ∧ Below w.heap.size w w' := by
  have B0 := (Blk.new w 22 (ints .u8 hs)).alloc (.cells (ints .u8 (zeros 16)) 22)
  have B1 := Blk.new (w.alloc (.cells (ints .u8 hs) 22)) 22 (ints .u8 (zeros 16))
  rw [World.size_alloc] at B1
  have hbel := ((Below.refl w.heap.size w).alloc (Nat.le_refl _) (.cells (ints .u8 hs) 22)).alloc (by simp) (.cells (ints .u8 (zeros 16)) 22)
  have S1 := hs0.below hbel
  have hvl : (valL hs bs).length = 16 := onL_len (zeros_len _) _
  have hpl : (padL bs).length < 2 ^ 32 := by rw [padL_len]; omega
  have hpb := padL_lt hbb
  have hpm := padL_mod bs
  go_enter Try.func12, Try.ntmps12
  go_wp2_with (refine wpList_alloc_ints rfl 22 rfl Try.z22 ?_; (try simp only [Act.put, List.setIfInBounds_toArray, List.set_cons_zero, List.set_cons_succ, World.size_alloc, setRow_size, Nat.add_assoc, Nat.reduceAdd]))
  generalize ((w.alloc (.cells (ints .u8 hs) 22)).alloc (.cells (ints .u8 (zeros 16)) 22)) = w0 at *
  refine wp_region_last2 5 (by kernel_rfl) (by kernel_rfl) (by kernel_rfl) (by kernel_rfl) (fun D a W => ∃ u3 u5 u6 u7 u8 u9 : Value, a = { tmps := #[.agg (ints .u8 hs), .slice ad bs.length c, .pointer (some ⟨w.heap.size, 0, none⟩), u3, .pointer (some ⟨w.heap.size + 1, 0, none⟩), u5, u6, u7, u8, u9], defers := [] } ∧ Below w0.heap.size w0 W ∧ (D 0 → u5 = .agg (ints .u8 hs)) ∧ (D 1 → u6 = .agg (ints .u8 (zeros 16))) ∧ (D 2 → u7 = .slice ad bs.length c) ∧ (D 3 → Own W w0.heap.size 5 .u8 u8 (padL bs)) ∧ (D 4 → u9 = .agg (ints .u8 (valL hs bs)))) ?_ ?_ ?_
  · exact ⟨_, _, _, _, _, _, rfl, ⟨rfl, rfl, rfl, Nat.le_refl _, fun _ _ => rfl⟩, (fun h => h.elim), (fun h => h.elim), (fun h => h.elim), (fun h => h.elim), (fun h => h.elim)⟩
  · intro i o hilt hi D a W hI hnD hall
    obtain ⟨u3, u5, u6, u7, u8, u9, rfl, hW, f0, f1, f2, f3, f4⟩ := hI
    rcases i with _ | _ | _ | _ | _ | i
    · simp only [Nat.zero_add, Nat.reduceAdd, List.getElem?_toArray, List.getElem?_cons_succ, List.getElem?_cons_zero, Option.some.injEq] at hi
      subst hi
      refine wpOp_load rfl rfl rfl rfl (B0.below' hW) Try.ar22 hl ?_
      exact ⟨_, _, _, _, _, _, rfl, hW, (fun _ => rfl), (fun h => f1 (rl h)), (fun h => f2 (rl h)), (fun h => f3 (rl h)), (fun h => f4 (rl h))⟩
    · simp only [Nat.zero_add, Nat.reduceAdd, List.getElem?_toArray, List.getElem?_cons_succ, List.getElem?_cons_zero, Option.some.injEq] at hi
      subst hi
      refine wpOp_value (v := .agg (ints .u8 (zeros 16))) rfl rfl (by kernel_rfl) ?_
      exact ⟨_, _, _, _, _, _, rfl, hW, (fun h => f0 (rl h)), (fun _ => rfl), (fun h => f2 (rl h)), (fun h => f3 (rl h)), (fun h => f4 (rl h))⟩
    · simp only [Nat.zero_add, Nat.reduceAdd, List.getElem?_toArray, List.getElem?_cons_succ, List.getElem?_cons_zero, Option.some.injEq] at hi
      subst hi
      refine wpOp_value (v := .slice ad bs.length c) rfl rfl rfl ?_
      exact ⟨_, _, _, _, _, _, rfl, hW, (fun h => f0 (rl h)), (fun h => f1 (rl h)), (fun _ => rfl), (fun h => f3 (rl h)), (fun h => f4 (rl h))⟩
    · simp only [Nat.zero_add, Nat.reduceAdd, List.getElem?_toArray, List.getElem?_cons_succ, List.getElem?_cons_zero, Option.some.injEq] at hi
      subst hi
      obtain rfl := f2 (pre_of hall 2 rfl)
      refine wpOp_callX (R := fun v w' => Own w' w0.heap.size 5 .u8 v (padL bs) ∧ Below W.heap.size W w') 26 rfl rfl rfl Try.func26 (by kernel_rfl) (by kernel_rfl) (padB_c ad c bs hc (by omega) w0.heap.size W hW.size (S1.below hW)) ?_; rintro v W' ⟨hown, hW'⟩
      exact ⟨_, _, _, _, _, _, rfl, bCall hW hW' hW.size, (fun h => f0 (rl h)), (fun h => f1 (rl h)), (fun h => f2 (rl h)), (fun _ => hown), (fun h => ((fun h _ => h)) (f4 (rl h)) hW')⟩
    · simp only [Nat.zero_add, Nat.reduceAdd, List.getElem?_toArray, List.getElem?_cons_succ, List.getElem?_cons_zero, Option.some.injEq] at hi
      subst hi
      obtain rfl := f0 (pre_of hall 0 rfl)
      obtain rfl := f1 (pre_of hall 1 rfl)
      have hx := (f3 (pre_of hall 3 rfl)); refine wpOp_call 25 rfl rfl rfl Try.func25 (by kernel_rfl) (by kernel_rfl) (onOwn_c hl hb hpl hpb hpm hx) ?_; intro W' hW'
      exact ⟨_, _, _, _, _, _, rfl, bCall hW hW' hW.size, (fun h => f0 (rl h)), (fun h => f1 (rl h)), (fun h => f2 (rl h)), (fun h => (Own.below) (f3 (rl h)) hW'), (fun _ => rfl)⟩
    · exfalso; omega
  · rintro D a W ⟨u3, u5, u6, u7, u8, u9, rfl, hW, f0, f1, f2, f3, f4⟩ hall
    obtain rfl := f0 (hall 0 (by decide))
    obtain rfl := f1 (hall 1 (by decide))
    obtain rfl := f2 (hall 2 (by decide))
    have x8 := f3 (hall 3 (by decide))
    have x9 := f4 (hall 4 (by decide))
    clear f0 f1 f2 hall
    obtain rfl := x9
    have K2 := B1.below' hW
    have hbel1 := bCall hbel hW (by have := B1.lt; omega)
    refine wpOp_store rfl rfl rfl rfl rfl K2 (zeros_size _ _) Try.ar22 hvl ?_
    go_wp2
    exact ret_ints rfl rfl (K2.row _) Try.ar22 hvl ⟨rfl, bSetRow hbel1 (by omega) _⟩
theorem own_null {w : World} {B e : Nat} {k : IntKind} {v : Value} {xs : List Nat} (h : Own w B e k v xs) : ∀ a n c, v = .slice a n c → a = none → c = 0 := fun a n c hv ha => by
  subst ha
  subst hv
  obtain ⟨-, h2⟩ := h
  rcases h2 with ⟨h2, -⟩ | ⟨g, cap, cur, q1, -⟩
  · injection h2
  · injection q1 with q1; cases q1
set_option maxRecDepth 100000 in
set_option maxHeartbeats 8000000 in
theorem enc_ref (t m : List Nat) (ht : t.length < 2 ^ 29) (hm : m.length < 2 ^ 29) (a1 a2 : Option Addr) (c1 c2 : Nat) (hc1 : a1 = none → c1 = 0) (hc2 : a2 = none → c2 = 0) (w : World) (hs1 : Sl w a1 .u8 t) (hs2 : Sl w a2 .u8 m) :
    Calls Try.prog 21 #[.slice a1 t.length c1, .slice a2 m.length c2] w fun e w' => ∃ v, e = .returned v ∧ Own w' w.heap.size 5 .u8 v (encL t m) ∧ Below w.heap.size w w' := by
  have hr : (m.length : Int) % 16 = ((m.length % 16 : Nat) : Int) := by omega
  have hl63 : t.length < 2 ^ 63 := by omega
  by_cases h0 : m.length % 16 = 0
  · have HP : Hid (encL t m = (lenL t.length true ++ padL t) ++ m) := Lib.hid (by unfold encL msgL; rw [if_pos h0, decide_eq_true h0])
    have HM : Hid (msgL m = m) := Lib.hid (by unfold msgL; rw [if_pos h0])
    rw [h0] at hr
    go_enter Try.func21, Try.ntmps21
    go_wp2_with fail
    refine (length_ref t.length hl63 true _).mono ?_
    rintro e w1 ⟨rfl, hb1⟩
    have C6 := Blk.new w1 22 (ints .u8 (zeros 16))
    have hbel1 := (bSetRow (hb1.alloc hb1.size (.cells (ints .u8 (zeros 16)) 22)) hb1.size (ints .u8 (lenL t.length true))).alloc (by rw [setRow_size, World.size_alloc]; have := hb1.size; omega) (.cells #[] 5)
    have L1 := Sl.blk ((C6.row (ints .u8 (lenL t.length true))).alloc (.cells #[] 5))
    have hE := Own.empty ((w1.alloc (.cells (ints .u8 (zeros 16)) 22)).setRow w1.heap.size (ints .u8 (lenL t.length true))) w.heap.size (by rw [setRow_size, World.size_alloc]; have := hb1.size; omega)
    rw [setRow_size, World.size_alloc] at hE
    have hll := lenL_len t.length true
    have hln1 : ([] : List Nat).length + (lenL t.length true).length < 2 ^ 40 := by rw [hll]; simp
    have hB1 := hbel1.size
    go_wp2_with (first
      | (refine wpList_alloc_ints rfl 22 rfl Try.z22 ?_; (try simp only [Act.put, List.setIfInBounds_toArray, List.set_cons_zero, List.set_cons_succ, World.size_alloc, setRow_size, Nat.add_assoc, Nat.reduceAdd]))
      | (refine wpList_store_ints (k := .u8) (xs := lenL t.length true) rfl 22 _ _ rfl w1.heap.size rfl rfl C6 (zeros_size _ _) Try.ar22 hll ?_; (try simp only [Act.put, List.setIfInBounds_toArray, List.set_cons_zero, List.set_cons_succ, World.size_alloc, setRow_size, Nat.add_assoc, Nat.reduceAdd]))
      | (refine wpList_append_sl (zs := lenL t.length true) rfl rfl Try.underlying23 u8_inf rfl (by omega) rfl hE rfl hll.symm (fun h => by cases h) L1 hln1 hB1 ?_; intro v2 w2 hown2 hgr; replace hown2 := own_nil hown2; have hbel2 := bGrown hbel1 hgr hB1 hE (Nat.le_refl _); clear hgr hE L1 C6 hbel1 hB1; have hB2 := hbel2.size; (try simp only [Act.put, List.setIfInBounds_toArray, List.set_cons_zero, List.set_cons_succ, World.size_alloc, setRow_size, Nat.add_assoc, Nat.reduceAdd])))
    have S2 := hs1.below hbel2
    refine (padB_c a1 c1 t hc1 (by omega) w.heap.size _ hB2 S2).mono ?_
    rintro e w3 ⟨v3, rfl, hown3, hb3⟩
    have hown2' := hown2.below hb3
    have hbel3 := bCall hbel2 hb3 hB2
    have hB3 := hbel3.size
    have M3 := hs2.below hbel3
    obtain ⟨a3, c3, hv3, hsl3, hle3, -⟩ := hown3.sl
    have hnil3 := own_null hown3
    subst hv3
    replace hnil3 := hnil3 _ _ _ rfl
    have hln2 : (lenL t.length true).length + (padL t).length < 2 ^ 40 := by rw [hll, padL_len]; omega
    have hln3 : (lenL t.length true ++ padL t).length + (msgL m).length < 2 ^ 40 := by rw [List.length_append, hll, padL_len]; have := msgL_len m; omega
    clear hown2 hle3 hb3 hown3
    rw [HM.out] at hln3
    go_wp2_with (first
      | (refine wpList_append_sl (zs := padL t) rfl rfl Try.underlying23 u8_inf rfl (by omega) rfl hown2' rfl rfl hnil3 hsl3 hln2 hB3 ?_; intro v4 w4 hown4 hgr; have hbel4 := bGrown hbel3 hgr hB3 hown2' (Nat.le_refl _); clear hgr hown2'; have hB4 := hbel4.size; have M4 := hs2.below hbel4; (try simp only [Act.put, List.setIfInBounds_toArray, List.set_cons_zero, List.set_cons_succ, World.size_alloc, setRow_size, Nat.add_assoc, Nat.reduceAdd]))
      | (refine wpList_append_sl (zs := m) rfl rfl Try.underlying23 u8_inf rfl (by omega) rfl hown4 rfl rfl hc2 M4 hln3 hB4 ?_; intro v5 w5 hown5 hgr; have hbel5 := bGrown hbel4 hgr hB4 hown4 (Nat.le_refl _); clear hgr hown4; (try simp only [Act.put, List.setIfInBounds_toArray, List.set_cons_zero, List.set_cons_succ, World.size_alloc, setRow_size, Nat.add_assoc, Nat.reduceAdd])))
    go_ret
    exact ⟨_, rfl, by rw [HP.out]; exact hown5, hbel5⟩
  · have HP : Hid (encL t m = (lenL t.length false ++ padL t) ++ padL (m ++ [1])) := Lib.hid (by unfold encL msgL markL; rw [if_neg h0, decide_eq_false h0])
    have HM : Hid (msgL m = padL (m ++ [1])) := Lib.hid (by unfold msgL markL; rw [if_neg h0])
    have hr2 : (((m.length % 16 : Nat) : Int) == 0) = false := by simp; omega
    generalize m.length % 16 = r at *
    go_enter Try.func21, Try.ntmps21
    go_wp2_with fail
    refine (length_ref t.length hl63 false _).mono ?_
    rintro e w1 ⟨rfl, hb1⟩
    have C6 := Blk.new w1 22 (ints .u8 (zeros 16))
    have hbel1 := (bSetRow (hb1.alloc hb1.size (.cells (ints .u8 (zeros 16)) 22)) hb1.size (ints .u8 (lenL t.length false))).alloc (by rw [setRow_size, World.size_alloc]; have := hb1.size; omega) (.cells #[] 5)
    have L1 := Sl.blk ((C6.row (ints .u8 (lenL t.length false))).alloc (.cells #[] 5))
    have hE := Own.empty ((w1.alloc (.cells (ints .u8 (zeros 16)) 22)).setRow w1.heap.size (ints .u8 (lenL t.length false))) w.heap.size (by rw [setRow_size, World.size_alloc]; have := hb1.size; omega)
    rw [setRow_size, World.size_alloc] at hE
    have hll := lenL_len t.length false
    have hln1 : ([] : List Nat).length + (lenL t.length false).length < 2 ^ 40 := by rw [hll]; simp
    have hB1 := hbel1.size
    go_wp2_with (first
      | (refine wpList_alloc_ints rfl 22 rfl Try.z22 ?_; (try simp only [Act.put, List.setIfInBounds_toArray, List.set_cons_zero, List.set_cons_succ, World.size_alloc, setRow_size, Nat.add_assoc, Nat.reduceAdd]))
      | (refine wpList_store_ints (k := .u8) (xs := lenL t.length false) rfl 22 _ _ rfl w1.heap.size rfl rfl C6 (zeros_size _ _) Try.ar22 hll ?_; (try simp only [Act.put, List.setIfInBounds_toArray, List.set_cons_zero, List.set_cons_succ, World.size_alloc, setRow_size, Nat.add_assoc, Nat.reduceAdd]))
      | (refine wpList_append_sl (zs := lenL t.length false) rfl rfl Try.underlying23 u8_inf rfl (by omega) rfl hE rfl hll.symm (fun h => by cases h) L1 hln1 hB1 ?_; intro v2 w2 hown2 hgr; replace hown2 := own_nil hown2; have hbel2 := bGrown hbel1 hgr hB1 hE (Nat.le_refl _); clear hgr hE L1 C6 hbel1 hB1; have hB2 := hbel2.size; (try simp only [Act.put, List.setIfInBounds_toArray, List.set_cons_zero, List.set_cons_succ, World.size_alloc, setRow_size, Nat.add_assoc, Nat.reduceAdd])))
    have S2 := hs1.below hbel2
    refine (padB_c a1 c1 t hc1 (by omega) w.heap.size _ hB2 S2).mono ?_
    rintro e w3 ⟨v3, rfl, hown3, hb3⟩
    have hown2' := hown2.below hb3
    have hbel3 := bCall hbel2 hb3 hB2
    have hB3 := hbel3.size
    have M3 := hs2.below hbel3
    obtain ⟨a3, c3, hv3, hsl3, hle3, -⟩ := hown3.sl
    have hnil3 := own_null hown3
    subst hv3
    replace hnil3 := hnil3 _ _ _ rfl
    have hln2 : (lenL t.length false).length + (padL t).length < 2 ^ 40 := by rw [hll, padL_len]; omega
    have hln3 : (lenL t.length false ++ padL t).length + (msgL m).length < 2 ^ 40 := by rw [List.length_append, hll, padL_len]; have := msgL_len m; omega
    clear hown2 hle3 hb3 hown3
    rw [HM.out] at hln3
    go_wp2_with (first
      | (refine wpList_append_sl (zs := padL t) rfl rfl Try.underlying23 u8_inf rfl (by omega) rfl hown2' rfl rfl hnil3 hsl3 hln2 hB3 ?_; intro v4 w4 hown4 hgr; have hbel4 := bGrown hbel3 hgr hB3 hown2' (Nat.le_refl _); clear hgr hown2'; have hB4 := hbel4.size; have M4 := hs2.below hbel4; (try simp only [Act.put, List.setIfInBounds_toArray, List.set_cons_zero, List.set_cons_succ, World.size_alloc, setRow_size, Nat.add_assoc, Nat.reduceAdd])))
    refine (markR_c a2 c2 1 m hc2 (by omega) _ M4).mono ?_
    rintro e w5 ⟨v5, rfl, hown5, hb5⟩
    have hown4' := hown4.below hb5
    have hbel5 := bCall hbel4 hb5 hB4
    have hB5 := hbel5.size
    obtain ⟨a5, c5, hv5, hsl5, -, -⟩ := hown5.sl
    have hnil5 := own_null hown5
    subst hv5
    replace hnil5 := hnil5 _ _ _ rfl
    clear hown4 hb5 hown5
    go_wp2_with (first
      | (refine wpList_append_sl (zs := padL (m ++ [1])) rfl rfl Try.underlying23 u8_inf rfl (by omega) rfl hown4' rfl rfl hnil5 hsl5 hln3 hB5 ?_; intro v6 w6 hown6 hgr; have hbel6 := bGrown hbel5 hgr hB5 hown4' (Nat.le_refl _); clear hgr hown4'; (try simp only [Act.put, List.setIfInBounds_toArray, List.set_cons_zero, List.set_cons_succ, World.size_alloc, setRow_size, Nat.add_assoc, Nat.reduceAdd])))
    go_ret
    exact ⟨_, rfl, by rw [HP.out]; exact hown6, hbel6⟩
theorem sumOwn_ref {hs xs : List Nat} (hl : hs.length = 16) (hb : ∀ x ∈ hs, x < 256) (hlen : xs.length < 2 ^ 31) (hbb : ∀ x ∈ xs, x < 256) {W : World} {B : Nat} {v : Value} (ho : Own W B 5 .u8 v xs) :
    Calls Try.prog 12 #[.agg (ints .u8 hs), v] W fun e w' => e = .returned (.agg (ints .u8 (valL hs xs))) ∧ Below W.heap.size W w' := by
  have hn := own_null ho
  obtain ⟨a, c, rfl, hsl, -, -⟩ := ho.sl
  exact sum_ref hs xs hl hb hlen hbb a c (hn _ _ _ rfl) W hsl
theorem encRB_c (t m : List Nat) (ht : t.length < 2 ^ 29) (hm : m.length < 2 ^ 29) (a1 a2 : Option Addr) (c1 c2 : Nat) (hc1 : a1 = none → c1 = 0) (hc2 : a2 = none → c2 = 0) (B : Nat) (w : World) (hB : B ≤ w.heap.size) (hs1 : Sl w a1 .u8 t) (hs2 : Sl w a2 .u8 m) :
    Calls Try.prog 21 #[.slice a1 t.length c1, .slice a2 m.length c2] w fun e w' => ∃ v, e = .returned v ∧ Own w' B 5 .u8 v (encL t m) ∧ Below w.heap.size w w' :=
  (enc_ref t m ht hm a1 a2 c1 c2 hc1 hc2 w hs1 hs2).mono fun e w' ⟨v, h1, h2, h3⟩ => ⟨v, h1, h2.mono hB, h3⟩
set_option maxRecDepth 100000 in
set_option maxHeartbeats 4000000 in
theorem hash_ref (hs t m : List Nat) (hl : hs.length = 16) (hb : ∀ x ∈ hs, x < 256) (ht : t.length < 2 ^ 29) (hm : m.length < 2 ^ 29) (htb : ∀ x ∈ t, x < 256) (hmb : ∀ x ∈ m, x < 256) (a1 a2 : Option Addr) (c1 c2 : Nat) (hc1 : a1 = none → c1 = 0) (hc2 : a2 = none → c2 = 0) (w : World) (hs1 : Sl w a1 .u8 t) (hs2 : Sl w a2 .u8 m) :
    Calls Try.prog 23 #[.agg (ints .u8 hs), .slice a1 t.length c1, .slice a2 m.length c2] w fun e w' => e = .returned (.agg (ints .u8 (valL hs (encL t m)))) ∧ Below w.heap.size w w' := by
  have B0 := (Blk.new w 22 (ints .u8 hs)).alloc (.cells (ints .u8 (zeros 16)) 22)
  have B1 := Blk.new (w.alloc (.cells (ints .u8 hs) 22)) 22 (ints .u8 (zeros 16))
  rw [World.size_alloc] at B1
  have hbel := ((Below.refl w.heap.size w).alloc (Nat.le_refl _) (.cells (ints .u8 hs) 22)).alloc (by simp) (.cells (ints .u8 (zeros 16)) 22)
  have S1 := hs1.below hbel
  have S2 := hs2.below hbel
  have hvl : (valL hs (encL t m)).length = 16 := onL_len (zeros_len _) _
  have hle : (encL t m).length < 2 ^ 31 := by have := encL_len t m; omega
  have hel := encL_lt htb hmb
  go_enter Try.func23, Try.ntmps23
  go_wp2_with (refine wpList_alloc_ints rfl 22 rfl Try.z22 ?_; (try simp only [Act.put, List.setIfInBounds_toArray, List.set_cons_zero, List.set_cons_succ, World.size_alloc, setRow_size, Nat.add_assoc, Nat.reduceAdd]))
  generalize ((w.alloc (.cells (ints .u8 hs) 22)).alloc (.cells (ints .u8 (zeros 16)) 22)) = w0 at *
  refine wp_region_last2 5 (by kernel_rfl) (by kernel_rfl) (by kernel_rfl) (by kernel_rfl) (fun D a W => ∃ u4 u5 u7 u8 u9 u10 u11 : Value, a = { tmps := #[.agg (ints .u8 hs), .slice a1 t.length c1, .slice a2 m.length c2, .pointer (some ⟨w.heap.size, 0, none⟩), u4, u5, .pointer (some ⟨w.heap.size + 1, 0, none⟩), u7, u8, u9, u10, u11], defers := [] } ∧ Below w0.heap.size w0 W ∧ (D 0 → u7 = .agg (ints .u8 hs)) ∧ (D 1 → u8 = .slice a1 t.length c1) ∧ (D 2 → u9 = .slice a2 m.length c2) ∧ (D 3 → Own W w0.heap.size 5 .u8 u10 (encL t m)) ∧ (D 4 → u11 = .agg (ints .u8 (valL hs (encL t m))))) ?_ ?_ ?_
  · exact ⟨_, _, _, _, _, _, _, rfl, ⟨rfl, rfl, rfl, Nat.le_refl _, fun _ _ => rfl⟩, (fun h => h.elim), (fun h => h.elim), (fun h => h.elim), (fun h => h.elim), (fun h => h.elim)⟩
  · intro i o hilt hi D a W hI hnD hall
    obtain ⟨u4, u5, u7, u8, u9, u10, u11, rfl, hW, f0, f1, f2, f3, f4⟩ := hI
    rcases i with _ | _ | _ | _ | _ | i
    · simp only [Nat.zero_add, Nat.reduceAdd, List.getElem?_toArray, List.getElem?_cons_succ, List.getElem?_cons_zero, Option.some.injEq] at hi
      subst hi
      refine wpOp_load rfl rfl rfl rfl (B0.below' hW) Try.ar22 hl ?_
      exact ⟨_, _, _, _, _, _, _, rfl, hW, (fun _ => rfl), (fun h => f1 (rl h)), (fun h => f2 (rl h)), (fun h => f3 (rl h)), (fun h => f4 (rl h))⟩
    · simp only [Nat.zero_add, Nat.reduceAdd, List.getElem?_toArray, List.getElem?_cons_succ, List.getElem?_cons_zero, Option.some.injEq] at hi
      subst hi
      refine wpOp_value (v := .slice a1 t.length c1) rfl rfl rfl ?_
      exact ⟨_, _, _, _, _, _, _, rfl, hW, (fun h => f0 (rl h)), (fun _ => rfl), (fun h => f2 (rl h)), (fun h => f3 (rl h)), (fun h => f4 (rl h))⟩
    · simp only [Nat.zero_add, Nat.reduceAdd, List.getElem?_toArray, List.getElem?_cons_succ, List.getElem?_cons_zero, Option.some.injEq] at hi
      subst hi
      refine wpOp_value (v := .slice a2 m.length c2) rfl rfl rfl ?_
      exact ⟨_, _, _, _, _, _, _, rfl, hW, (fun h => f0 (rl h)), (fun h => f1 (rl h)), (fun _ => rfl), (fun h => f3 (rl h)), (fun h => f4 (rl h))⟩
    · simp only [Nat.zero_add, Nat.reduceAdd, List.getElem?_toArray, List.getElem?_cons_succ, List.getElem?_cons_zero, Option.some.injEq] at hi
      subst hi
      obtain rfl := f1 (pre_of hall 1 rfl)
      obtain rfl := f2 (pre_of hall 2 rfl)
      refine wpOp_callX (R := fun v w' => Own w' w0.heap.size 5 .u8 v (encL t m) ∧ Below W.heap.size W w') 21 rfl rfl rfl Try.func21 (by kernel_rfl) (by kernel_rfl) (encRB_c t m ht hm a1 a2 c1 c2 hc1 hc2 w0.heap.size W hW.size (S1.below hW) (S2.below hW)) ?_; rintro v W' ⟨hown, hW'⟩
      exact ⟨_, _, _, _, _, _, _, rfl, bCall hW hW' hW.size, (fun h => f0 (rl h)), (fun h => f1 (rl h)), (fun h => f2 (rl h)), (fun _ => hown), (fun h => ((fun h _ => h)) (f4 (rl h)) hW')⟩
    · simp only [Nat.zero_add, Nat.reduceAdd, List.getElem?_toArray, List.getElem?_cons_succ, List.getElem?_cons_zero, Option.some.injEq] at hi
      subst hi
      obtain rfl := f0 (pre_of hall 0 rfl)
      have hx := (f3 (pre_of hall 3 rfl)); refine wpOp_call 12 rfl rfl rfl Try.func12 (by kernel_rfl) (by kernel_rfl) (sumOwn_ref hl hb hle hel hx) ?_; intro W' hW'
      exact ⟨_, _, _, _, _, _, _, rfl, bCall hW hW' hW.size, (fun h => f0 (rl h)), (fun h => f1 (rl h)), (fun h => f2 (rl h)), (fun h => (Own.below) (f3 (rl h)) hW'), (fun _ => rfl)⟩
    · exfalso; omega
  · rintro D a W ⟨u4, u5, u7, u8, u9, u10, u11, rfl, hW, f0, f1, f2, f3, f4⟩ hall
    obtain rfl := f0 (hall 0 (by decide))
    obtain rfl := f1 (hall 1 (by decide))
    obtain rfl := f2 (hall 2 (by decide))
    have x10 := f3 (hall 3 (by decide))
    have x11 := f4 (hall 4 (by decide))
    clear f0 f1 f2 hall
    obtain rfl := x11
    have K2 := B1.below' hW
    have hbel1 := bCall hbel hW (by have := B1.lt; omega)
    refine wpOp_store rfl rfl rfl rfl rfl K2 (zeros_size _ _) Try.ar22 hvl ?_
    go_wp2
    exact ret_ints rfl rfl (K2.row _) Try.ar22 hvl ⟨rfl, bSetRow hbel1 (by omega) _⟩
end Go.Proofs.Ytckobbddjldflaa
