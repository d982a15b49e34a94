/- Plain laws of chapter 22: a row's context. No program is spoken of. No condition but that bytes are below 256. -/
import Derived.Test.YthfkfbabjfogeaaP22
import Derived.Test.YthfkfbabjfogeaaOA
namespace Go.Proofs.Ythfkfbabjfogeaa
set_option linter.unusedSimpArgs false
set_option linter.unusedVariables false
set_option linter.unusedSectionVars false
set_option linter.unusedVariables false
/-- A piece at a row's head, and what is behind it; so many pieces; a row's context. -/
def decP (b : List Nat) : Option (List Nat × List Nat) := if b.length < 8 then none else if b.length - 8 < numAt b 0 8 then none else some ((b.drop 8).take (numAt b 0 8), b.drop (8 + numAt b 0 8))
def decL : Nat → List Nat → Option (List (List Nat) × List Nat)
  | 0, b => some ([], b)
  | n + 1, b => match decP b with
    | none => none
    | some (x, r) => match decL n r with
      | none => none
      | some (xs, r') => some (x :: xs, r')
def decC (b : List Nat) : Option (Nat × List Nat × List (List Nat)) := if b.length < 9 ∨ 16 < b.getD 0 0 then none else
  match decP (b.drop 9) with
  | none => none
  | some (x, r) => match decL (numAt b 1 8) r with
    | some (xs, []) => some (b.getD 0 0, x, xs)
    | _ => none
theorem numAt_take {b : List Nat} {p n : Nat} (h : p + n ≤ b.length) : numAt b p n = undig 256 ((b.drop p).take n) := by
  unfold numAt
  congr 1
  apply List.ext_getElem?
  intro i
  rw [List.getElem?_map, List.getElem?_take]
  by_cases hi : i < n
  · rw [List.getElem?_range hi, if_pos hi, List.getElem?_drop, Option.map_some, List.getD_eq_getElem?_getD, List.getElem?_eq_getElem (show p + i < b.length by omega)]; rfl
  · rw [if_neg hi, List.getElem?_eq_none (by simp; omega)]; rfl
theorem dig_numAt {b : List Nat} (hb : ∀ x ∈ b, x < 256) {p n : Nat} (h : p + n ≤ b.length) : dig 256 n (numAt b p n) = (b.drop p).take n := by
  rw [numAt_take h]
  have hl : ((b.drop p).take n).length = n := by rw [List.length_take, List.length_drop]; omega
  have := dig_undig 256 ((b.drop p).take n) fun x hx => hb x (List.mem_of_mem_drop (List.mem_of_mem_take hx))
  rw [hl] at this
  exact this
theorem numAt_dig {n : Nat} (hn : n < 256 ^ 8) (p r : List Nat) : numAt (p ++ (dig 256 8 n ++ r)) p.length 8 = n := by
  rw [numAt_take (by simp), List.drop_left, List.take_left' (dig_length _ _ _), undig_dig, Nat.mod_eq_of_lt hn]
theorem numAt_dig0 {n : Nat} (hn : n < 256 ^ 8) (r : List Nat) : numAt (dig 256 8 n ++ r) 0 8 = n := numAt_dig hn [] r
theorem decP_pcB {x r : List Nat} (hx : x.length < 256 ^ 8) : decP (pcB x ++ r) = some (x, r) := by
  have hn : numAt (pcB x ++ r) 0 8 = x.length := by
    unfold pcB
    rw [List.append_assoc]
    exact numAt_dig0 hx _
  have h8 : (dig 256 8 x.length).length = 8 := dig_length _ _ _
  unfold decP
  have h1 : (pcB x ++ r).drop 8 = x ++ r := by
    unfold pcB
    rw [List.append_assoc, List.drop_left' h8]
  have hlt : (pcB x ++ r).length = 8 + x.length + r.length := by rw [List.length_append, pcB_len]
  clear hx
  have g1 : ¬ (pcB x ++ r).length < 8 := by omega
  have g2 : ¬ (pcB x ++ r).length - 8 < x.length := by omega
  rw [hn, if_neg g1, if_neg g2, ← List.drop_drop, h1, List.take_left, List.drop_left]
theorem decP_some {b x r : List Nat} (hb : ∀ y ∈ b, y < 256) (h : decP b = some (x, r)) : b = pcB x ++ r ∧ x.length < 256 ^ 8 := by
  unfold decP at h
  split at h
  · cases h
  split at h
  · cases h
  rename_i h1 h2
  injection h with h
  injection h with hx hr
  have hxl : x.length = numAt b 0 8 := by rw [← hx, List.length_take, List.length_drop]; omega
  refine ⟨?_, by rw [hxl]; exact numAt_lt hb _ _⟩
  unfold pcB
  rw [hxl, dig_numAt hb (by omega), ← hx, ← hr, List.drop_zero, List.append_assoc, ← List.drop_drop, List.take_append_drop, List.take_append_drop]
theorem decL_putL : ∀ {xss : List (List Nat)} {r : List Nat}, (∀ xs ∈ xss, xs.length < 256 ^ 8) → decL xss.length (putL xss ++ r) = some (xss, r)
  | [], r, _ => rfl
  | x :: xss, r, h => by
    rw [List.length_cons, putL_cons, List.append_assoc]
    unfold decL
    rw [decP_pcB (h x List.mem_cons_self)]
    simp only []
    rw [decL_putL fun y hy => h y (List.mem_cons_of_mem _ hy)]
theorem decL_some : ∀ {n : Nat} {b : List Nat} {xss : List (List Nat)} {r : List Nat}, (∀ y ∈ b, y < 256) → decL n b = some (xss, r) → b = putL xss ++ r ∧ xss.length = n
  | 0, b, xss, r, _, h => by
    unfold decL at h
    injection h with h
    injection h with h1 h2
    subst h1 h2
    exact ⟨rfl, rfl⟩
  | n + 1, b, xss, r, hb, h => by
    unfold decL at h
    match hp : decP b with
    | none => rw [hp] at h; cases h
    | some (x, s) =>
      rw [hp] at h
      simp only [] at h
      obtain ⟨h1, -⟩ := decP_some hb hp
      match hl : decL n s with
      | none => rw [hl] at h; cases h
      | some (ys, s') =>
        rw [hl] at h
        injection h with h
        injection h with h3 h4
        subst h3 h4
        obtain ⟨h5, h6⟩ := decL_some (fun y hy => hb y (by rw [h1]; exact List.mem_append_right _ hy)) hl
        exact ⟨by rw [h1, h5, putL_cons, List.append_assoc], by rw [List.length_cons, h6]⟩
theorem decC_enc {t : Nat} {n : List Nat} {ad : List (List Nat)} (ht : t ≤ 16) (hn : n.length < 256 ^ 8) (ha : ∀ xs ∈ ad, xs.length < 256 ^ 8) (hl : ad.length < 256 ^ 8) : decC (encC t n ad) = some (t, n, ad) := by
  have e : encC t n ad = [t] ++ (dig 256 8 ad.length ++ (pcB n ++ putL ad)) := by unfold encC; simp
  have h0 : (encC t n ad).getD 0 0 = t := by rw [e]; rfl
  have h1 : numAt (encC t n ad) 1 8 = ad.length := by rw [e]; exact numAt_dig hl [t] _
  have h9 : (encC t n ad).drop 9 = pcB n ++ (putL ad ++ []) := by
    rw [e, ← List.append_assoc, List.drop_left' (by simp), List.append_nil]
  unfold decC
  have g1 : ¬ ((encC t n ad).length < 9 ∨ 16 < t) := by
    have : (encC t n ad).length = 1 + (8 + (pcB n ++ putL ad).length) := by rw [e, List.length_append, List.length_append, dig_length]; rfl
    clear hn ha hl
    omega
  rw [h0, h1, h9, decP_pcB hn, if_neg g1]
  simp only []
  rw [decL_putL ha]
theorem decC_some {b : List Nat} {t : Nat} {n : List Nat} {ad : List (List Nat)} (hb : ∀ y ∈ b, y < 256) (h : decC b = some (t, n, ad)) : b = encC t n ad ∧ t ≤ 16 := by
  unfold decC at h
  split at h
  · cases h
  rename_i h1
  have hd : ∀ y ∈ b.drop 9, y < 256 := fun y hy => hb y (List.mem_of_mem_drop hy)
  match hp : decP (b.drop 9) with
  | none => rw [hp] at h; cases h
  | some (x, s) =>
    rw [hp] at h
    simp only [] at h
    obtain ⟨h2, -⟩ := decP_some hd hp
    match hl : decL (numAt b 1 8) s with
    | none => rw [hl] at h; cases h
    | some (ys, _ :: _) => rw [hl] at h; cases h
    | some (ys, []) =>
      rw [hl] at h
      injection h with h
      injection h with h3 h4
      injection h4 with h4 h5
      subst h3 h4 h5
      obtain ⟨h6, h7⟩ := decL_some (fun y hy => hd y (by rw [h2]; exact List.mem_append_right _ hy)) hl
      refine ⟨?_, by omega⟩
      rw [List.append_nil] at h6
      unfold encC
      rw [h7, dig_numAt hb (by omega), List.append_assoc, ← h6, List.append_assoc, ← h2]
      have h10 : b.drop 1 = (b.drop 1).take 8 ++ b.drop 9 := by
        conv => lhs; rw [← List.take_append_drop 8 (b.drop 1), List.drop_drop]
      rw [← h10]
      clear hp hl h6 h2 h10 hd
      have hne : b ≠ [] := fun e => h1 (.inl (by rw [e]; decide))
      obtain ⟨y, b', hb'⟩ := List.exists_cons_of_ne_nil hne
      rw [hb']
      rfl
end Go.Proofs.Ythfkfbabjfogeaa
