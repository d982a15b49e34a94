/- Plain laws of chapter 22: a context's row. No program is spoken of. No condition. -/
import Derived.Test.YthfkfbabjfogeaaFlat
import Derived.Test.YthfkfbabjfogeaaKA
namespace Go.Proofs.Ythfkfbabjfogeaa
set_option linter.unusedSimpArgs false
set_option linter.unusedVariables false
set_option linter.unusedSectionVars false
set_option linter.unusedVariables false
/-- A piece, its length ahead; so many; a context's row. -/
def pcB (xs : List Nat) : List Nat := dig 256 8 xs.length ++ xs
def putL (xss : List (List Nat)) : List Nat := (xss.map pcB).flatten
def encC (t : Nat) (nonce : List Nat) (ad : List (List Nat)) : List Nat := [t] ++ dig 256 8 ad.length ++ pcB nonce ++ putL ad
theorem pcB_len (xs : List Nat) : (pcB xs).length = 8 + xs.length := by simp [pcB]
theorem putL_nil : putL [] = [] := rfl
theorem putL_one (xs : List Nat) : putL [xs] = pcB xs := by simp [putL]
theorem putL_cons (x : List Nat) (xss : List (List Nat)) : putL (x :: xss) = pcB x ++ putL xss := rfl
theorem putL_take {xss : List (List Nat)} {i : Nat} (hi : i < xss.length) : putL (xss.take (i + 1)) = putL (xss.take i) ++ pcB (xss.getD i []) := by
  unfold putL
  rw [List.take_add_one, List.getElem?_eq_getElem hi, List.map_append, List.flatten_append, List.getD_eq_getElem?_getD, List.getElem?_eq_getElem hi]
  simp
theorem pcB_lt {xs : List Nat} (h : ∀ x ∈ xs, x < 256) : ∀ x ∈ pcB xs, x < 256 := fun x hx => by
  unfold pcB at hx
  exact (List.mem_append.1 hx).elim (dig_lt (by omega) _ _ x) (h x)
theorem putL_lt {xss : List (List Nat)} (h : ∀ xs ∈ xss, ∀ x ∈ xs, x < 256) : ∀ x ∈ putL xss, x < 256 := fun x hx => by
  unfold putL at hx
  obtain ⟨l, hl, hxl⟩ := List.mem_flatten.1 hx
  obtain ⟨y, hy, rfl⟩ := List.mem_map.1 hl
  exact pcB_lt (h y hy) x hxl
theorem putL_len {xss : List (List Nat)} {m : Nat} (h : ∀ xs ∈ xss, xs.length ≤ m) : (putL xss).length ≤ (8 + m) * xss.length := by
  induction xss with
  | nil => simp [putL]
  | cons x xss ih =>
    rw [putL_cons, List.length_append, pcB_len, List.length_cons, Nat.mul_succ]
    have h1 := ih fun y hy => h y (List.mem_cons_of_mem _ hy)
    have h2 := h x List.mem_cons_self
    omega
theorem encC_lt {t : Nat} {nonce : List Nat} {ad : List (List Nat)} (ht : t < 256) (hn : ∀ x ∈ nonce, x < 256) (ha : ∀ xs ∈ ad, ∀ x ∈ xs, x < 256) : ∀ x ∈ encC t nonce ad, x < 256 := fun x hx => by
  unfold encC at hx
  rcases List.mem_append.1 hx with hx | hx
  · rcases List.mem_append.1 hx with hx | hx
    · rcases List.mem_append.1 hx with hx | hx
      · obtain rfl := List.mem_singleton.1 hx; exact ht
      · exact dig_lt (by omega) _ _ x hx
    · exact pcB_lt hn x hx
  · exact putL_lt ha x hx
theorem encC_len {t : Nat} {nonce : List Nat} {ad : List (List Nat)} (hn : nonce.length ≤ 100) (ha : ∀ xs ∈ ad, xs.length ≤ 100) (hl : ad.length ≤ 20) : (encC t nonce ad).length ≤ 2300 := by
  unfold encC
  rw [List.length_append, List.length_append, List.length_append, pcB_len, dig_length]
  have := putL_len ha
  have h2 : (8 + 100) * ad.length ≤ (8 + 100) * 20 := Nat.mul_le_mul_left _ hl
  simp only [List.length_singleton]
  omega
theorem pcB_inj {x y r s : List Nat} (hx : x.length < 256 ^ 8) (hy : y.length < 256 ^ 8) (h : pcB x ++ r = pcB y ++ s) : x = y ∧ r = s := by
  unfold pcB at h
  rw [List.append_assoc, List.append_assoc] at h
  obtain ⟨h1, h2⟩ := List.append_inj h (by rw [dig_length, dig_length])
  have hl := dig_inj 8 hx hy h1
  exact List.append_inj h2 hl
theorem putL_inj : ∀ {xss yss : List (List Nat)}, xss.length = yss.length → (∀ xs ∈ xss, xs.length < 256 ^ 8) → (∀ xs ∈ yss, xs.length < 256 ^ 8) → putL xss = putL yss → xss = yss
  | [], [], _, _, _, _ => rfl
  | [], y :: yss, h, _, _, _ => by simp at h
  | x :: xss, [], h, _, _, _ => by simp at h
  | x :: xss, y :: yss, h, hx, hy, he => by
    rw [putL_cons, putL_cons] at he
    obtain ⟨h1, h2⟩ := pcB_inj (hx x List.mem_cons_self) (hy y List.mem_cons_self) he
    rw [h1, putL_inj (by simpa using h) (fun z hz => hx z (List.mem_cons_of_mem _ hz)) (fun z hz => hy z (List.mem_cons_of_mem _ hz)) h2]
theorem encC_inj {t u : Nat} {n m : List Nat} {ad bd : List (List Nat)} (hn : n.length < 256 ^ 8) (hm : m.length < 256 ^ 8) (ha : ∀ xs ∈ ad, xs.length < 256 ^ 8) (hb : ∀ xs ∈ bd, xs.length < 256 ^ 8) (hal : ad.length < 256 ^ 8) (hbl : bd.length < 256 ^ 8) (h : encC t n ad = encC u m bd) : t = u ∧ n = m ∧ ad = bd := by
  unfold encC at h
  rw [List.append_assoc, List.append_assoc, List.append_assoc, List.append_assoc] at h
  obtain ⟨h1, h2⟩ := List.append_inj h rfl
  obtain ⟨h3, h4⟩ := List.append_inj h2 (by rw [dig_length, dig_length])
  obtain ⟨h5, h6⟩ := pcB_inj hn hm h4
  have hl := dig_inj 8 hal hbl h3
  exact ⟨by simpa using h1, h5, putL_inj hl ha hb h6⟩
end Go.Proofs.Ythfkfbabjfogeaa
