/- The cells of a poly.Sum; New, part, Write. No condition but that bytes are below 256. -/
import Derived.Test.YtolfngmpoafaaaaW8a
namespace Go.Proofs.Ytolfngmpoafaaaa
set_option linter.unusedSimpArgs false
set_option linter.unusedVariables false
set_option linter.unusedSectionVars false
set_option linter.unusedVariables false
open Go.RowKit
section
variable {P : Program}
/-- copy into a part of a block of cells of any kind. -/
theorem wpList_copy_part {w : World} {ops : Array Oper} {rest : List Oper} {o : Oper} {a : Act} {Q : Exit → Act → World → Prop} {d s : Operand} {dT sT elem t g off dLen dCap sLen sCap : Nat} {sp : Option Addr} {k : IntKind} {pre old post : List Value} {zs : List Nat} (hgd : o.guard = none)
    (ho : o.op = .call { callee := .builtin .copy, args := #[d, s], argTypes := #[dT, sT] }) (hu : P.underlying dT = some (.slice elem)) (hsz : (P.info? elem).map (·.size) = some 1)
    (hd : a.eval d = .slice (some ⟨g, off, none⟩) dLen dCap) (hs : a.eval s = .slice sp sLen sCap) (hg : Blk w g t (pre ++ old ++ post).toArray) (hsl : Sl w sp k zs) (hn : zs.length = Nat.min sLen dLen)
    (hoff : off = pre.length) (hold : old.length = zs.length)
    (h : ∀ w', Blk w' g t (pre ++ vals k zs ++ post).toArray → Far g w w' → wpList P ops Q rest (a.put o.dst (goInt zs.length)) w') : wpList P ops Q (o :: rest) a w := by
  by_cases h0 : zs = []
  · subst h0
    refine wpList_copy_nothing hgd d s dT sT ho elem hu hsz _ sp dLen dCap sLen sCap hd hs hn.symm ?_
    refine h w ?_ (Far.refl _ _)
    obtain rfl := List.eq_nil_of_length_eq_zero hold
    exact hg
  · obtain ⟨g2, o2, rfl, hg2, hc⟩ := hsl h0
    have hml := vals_len k zs
    refine wpList_copy_own hgd d s dT sT ho elem hu hsz g off dLen dCap ⟨g2, o2, none⟩ sLen sCap hd hs _ t hg (vals k zs) (hml.trans hn) (fun j v hv => ?_) (by rw [hml, ← hold]; simp [hoff]) (vals_one _ _) ?_
    · unfold vals at hv
      rw [List.getElem?_map] at hv
      obtain ⟨x, hx, rfl⟩ := Option.map_eq_some_iff.1 hv
      obtain ⟨hj, -⟩ := List.getElem?_eq_some_iff.1 hx
      rw [Addr.add_mid, hc j hj, List.getD_eq_getElem?_getD, hx]; rfl
    · rw [hml]
      refine h _ ?_ (Far.row _ _ _)
      have e : ((pre ++ old ++ post).toArray.toList.take off ++ (vals k zs ++ (pre ++ old ++ post).toArray.toList.drop (off + zs.length))) = pre ++ vals k zs ++ post := by
        subst hoff
        rw [← hold]
        simp [List.take_append, List.drop_append]
      rw [e]
      exact hg.row _
end
/-- The cells of a Sum: the key's number, the value, what is left, how many bytes. -/
def smC (r v rest : List Nat) (m : Nat) : Array Value := (vals .u32 r ++ vals .u32 v ++ vals .u8 rest ++ [Value.int .i64 (m : Int)]).toArray
theorem smC_by (r v rest : List Nat) (m : Nat) : smC r v rest m = ([] ++ vals .u32 r ++ (vals .u32 v ++ vals .u8 rest ++ [Value.int .i64 (m : Int)])).toArray := by simp [smC]
theorem smC_v (r v rest : List Nat) (m : Nat) : smC r v rest m = (vals .u32 r ++ vals .u32 v ++ (vals .u8 rest ++ [Value.int .i64 (m : Int)])).toArray := by simp [smC]
theorem smC_rest (r v rest : List Nat) (m : Nat) : smC r v rest m = ((vals .u32 r ++ vals .u32 v) ++ vals .u8 rest ++ [Value.int .i64 (m : Int)]).toArray := by simp [smC]
theorem smC_many (r v rest : List Nat) (m : Nat) : smC r v rest m = ((vals .u32 r ++ vals .u32 v ++ vals .u8 rest) ++ [Value.int .i64 (m : Int)] ++ []).toArray := by simp [smC]
theorem vals_append (k : IntKind) (xs ys : List Nat) : vals k (xs ++ ys) = vals k xs ++ vals k ys := by simp [vals]
theorem smC_tail (r v : List Nat) {rest : List Nat} (m j n : Nat) (hj : j + n ≤ rest.length) : smC r v rest m = ((vals .u32 r ++ vals .u32 v ++ vals .u8 (rest.take j)) ++ vals .u8 ((rest.drop j).take n) ++ (vals .u8 (rest.drop (j + n)) ++ [Value.int .i64 (m : Int)])).toArray := by
  have e : rest = rest.take j ++ ((rest.drop j).take n ++ rest.drop (j + n)) := by
    rw [← List.drop_drop, List.take_append_drop, List.take_append_drop]
  conv => lhs; rw [e]
  simp [smC, vals_append]
theorem lt32 (v : Nat) : ∀ x ∈ numOf v, x < 2 ^ 32 := fun x hx => Nat.lt_trans (numOf_lt v x hx) (by decide)
theorem smC_size {r v rest : List Nat} (hr : r.length = 5) (hv : v.length = 5) (hs : rest.length = 16) (m : Nat) : (smC r v rest m).size = 27 := by simp [smC, vals_len, hr, hv, hs]
theorem part_num (r v c : Nat) : numOf (val (numOf (val (numOf v) + val (numOf c))) * val (numOf r)) = numOf ((v + c) * r) := by
  refine numOf_congr ?_
  rw [val_numOf, val_numOf, val_numOf, val_numOf, ← Nat.mul_mod, Nat.mul_mod, ← Nat.add_mod, ← Nat.mul_mod]
set_option maxRecDepth 100000 in
set_option maxHeartbeats 4000000 in
theorem part8_c (g r v c : Nat) (rest : List Nat) (m : Nat) (w : World) (S0 : Blk w g 87 (smC (numOf r) (numOf v) rest m)) :
    Calls Try.prog 50 #[.pointer (some ⟨g, 0, none⟩), .agg (ints .u32 (numOf c))] w fun e w' => e = .returned (.tuple #[]) ∧ Blk w' g 87 (smC (numOf r) (numOf ((v + c) * r)) rest m) ∧ Ch g w w' := by
  have B0 := Blk.new w 83 (ints .u32 (numOf c))
  have S1 := S0.alloc (.cells (ints .u32 (numOf c)) 83)
  have hch := Ch.of_below (g := g) ((Below.refl w.heap.size w).alloc (Nat.le_refl _) (.cells (ints .u32 (numOf c)) 83))
  have hgl := S1.lt
  go_enter Try.func50, Try.ntmps50
  go_wp2_with fail
  generalize (w.alloc (.cells (ints .u32 (numOf c)) 83)) = w0 at *
  have SR := S1
  rw [smC_by] at SR
  have SV := S1
  rw [smC_v] at SV
  have hpl : 5 = (vals .u32 (numOf r)).length := by rw [vals_len, numOf_len]
  have hcl := numOf_len c
  refine wp_region_last2 14 (by kernel_rfl) (by kernel_rfl) (by kernel_rfl) (by kernel_rfl) (fun D act_ W => ∃ u2 u4 u5 u6 u7 u8 u9 u10 u11 u12 u13 u14 u15 u16 u17 : Value, act_ = { tmps := #[.pointer (some ⟨g, 0, none⟩), .agg (ints .u32 (numOf c)), u2, .pointer (some ⟨w.heap.size, 0, none⟩), u4, u5, u6, u7, u8, u9, u10, u11, u12, u13, u14, u15, u16, u17], defers := [] } ∧ Below w0.heap.size w0 W ∧ (D 0 → u4 = .pointer (some ⟨g, 0, none⟩)) ∧ (D 1 → u5 = .pointer (some ⟨g, 0, none⟩)) ∧ (D 2 → u6 = .pointer (some ⟨g, 0, none⟩)) ∧ (D 3 → u7 = .pointer (some ⟨g, 5, none⟩)) ∧ (D 4 → u8 = .agg (ints .u32 (numOf v))) ∧ (D 5 → u9 = .agg (ints .u32 (numOf c))) ∧ (D 6 → u10 = .agg (ints .u32 (numOf (val (numOf v) + val (numOf c))))) ∧ (D 7 → u11 = .pointer (some ⟨g, 0, none⟩)) ∧ (D 8 → u12 = .pointer (some ⟨g, 0, none⟩)) ∧ (D 9 → u13 = .pointer (some ⟨g, 0, none⟩)) ∧ (D 10 → u14 = .agg (ints .u32 (numOf r))) ∧ (D 11 → u15 = .agg (ints .u32 (numOf (val (numOf (val (numOf v) + val (numOf c))) * val (numOf r))))) ∧ (D 12 → u16 = .pointer (some ⟨g, 0, none⟩)) ∧ (D 13 → u17 = .pointer (some ⟨g, 5, none⟩))) ?_ ?_ ?_
  · exact ⟨_, _, _, _, _, _, _, _, _, _, _, _, _, _, _, rfl, ⟨rfl, rfl, rfl, Nat.le_refl _, fun _ _ => rfl⟩, (fun h => h.elim), (fun h => h.elim), (fun h => h.elim), (fun h => h.elim), (fun h => h.elim), (fun h => h.elim), (fun h => h.elim), (fun h => h.elim), (fun h => h.elim), (fun h => h.elim), (fun h => h.elim), (fun h => h.elim), (fun h => h.elim), (fun h => h.elim)⟩
  · intro i o hilt hi D act_ W hI hnD hall
    obtain ⟨u2, u4, u5, u6, u7, u8, u9, u10, u11, u12, u13, u14, u15, u16, u17, rfl, hW, f0, f1, f2, f3, f4, f5, f6, f7, f8, f9, f10, f11, f12, f13⟩ := hI
    rcases i with _ | _ | _ | _ | _ | _ | _ | _ | _ | _ | _ | _ | _ | _ | i
    · simp only [Nat.zero_add, Nat.reduceAdd, List.getElem?_toArray, List.getElem?_cons_succ, List.getElem?_cons_zero, Option.some.injEq] at hi
      subst hi
      refine wpOp_value (v := .pointer (some ⟨g, 0, none⟩)) rfl rfl rfl ?_
      exact ⟨_, _, _, _, _, _, _, _, _, _, _, _, _, _, _, rfl, hW, (fun _ => rfl), (fun h => f1 (rl h)), (fun h => f2 (rl h)), (fun h => f3 (rl h)), (fun h => f4 (rl h)), (fun h => f5 (rl h)), (fun h => f6 (rl h)), (fun h => f7 (rl h)), (fun h => f8 (rl h)), (fun h => f9 (rl h)), (fun h => f10 (rl h)), (fun h => f11 (rl h)), (fun h => f12 (rl h)), (fun h => f13 (rl h))⟩
    · simp only [Nat.zero_add, Nat.reduceAdd, List.getElem?_toArray, List.getElem?_cons_succ, List.getElem?_cons_zero, Option.some.injEq] at hi
      subst hi
      refine wpOp_value (v := .pointer (some ⟨g, 0, none⟩)) rfl rfl rfl ?_
      exact ⟨_, _, _, _, _, _, _, _, _, _, _, _, _, _, _, rfl, hW, (fun h => f0 (rl h)), (fun _ => rfl), (fun h => f2 (rl h)), (fun h => f3 (rl h)), (fun h => f4 (rl h)), (fun h => f5 (rl h)), (fun h => f6 (rl h)), (fun h => f7 (rl h)), (fun h => f8 (rl h)), (fun h => f9 (rl h)), (fun h => f10 (rl h)), (fun h => f11 (rl h)), (fun h => f12 (rl h)), (fun h => f13 (rl h))⟩
    · simp only [Nat.zero_add, Nat.reduceAdd, List.getElem?_toArray, List.getElem?_cons_succ, List.getElem?_cons_zero, Option.some.injEq] at hi
      subst hi
      obtain rfl := f1 (pre_of hall 1 rfl)
      refine wpOp_value (v := .pointer (some ⟨g, 0, none⟩)) rfl rfl (by kernel_rfl) ?_
      exact ⟨_, _, _, _, _, _, _, _, _, _, _, _, _, _, _, rfl, hW, (fun h => f0 (rl h)), (fun h => f1 (rl h)), (fun _ => rfl), (fun h => f3 (rl h)), (fun h => f4 (rl h)), (fun h => f5 (rl h)), (fun h => f6 (rl h)), (fun h => f7 (rl h)), (fun h => f8 (rl h)), (fun h => f9 (rl h)), (fun h => f10 (rl h)), (fun h => f11 (rl h)), (fun h => f12 (rl h)), (fun h => f13 (rl h))⟩
    · simp only [Nat.zero_add, Nat.reduceAdd, List.getElem?_toArray, List.getElem?_cons_succ, List.getElem?_cons_zero, Option.some.injEq] at hi
      subst hi
      obtain rfl := f2 (pre_of hall 2 rfl)
      refine wpOp_value (v := .pointer (some ⟨g, 5, none⟩)) rfl rfl (by kernel_rfl) ?_
      exact ⟨_, _, _, _, _, _, _, _, _, _, _, _, _, _, _, rfl, hW, (fun h => f0 (rl h)), (fun h => f1 (rl h)), (fun h => f2 (rl h)), (fun _ => rfl), (fun h => f4 (rl h)), (fun h => f5 (rl h)), (fun h => f6 (rl h)), (fun h => f7 (rl h)), (fun h => f8 (rl h)), (fun h => f9 (rl h)), (fun h => f10 (rl h)), (fun h => f11 (rl h)), (fun h => f12 (rl h)), (fun h => f13 (rl h))⟩
    · simp only [Nat.zero_add, Nat.reduceAdd, List.getElem?_toArray, List.getElem?_cons_succ, List.getElem?_cons_zero, Option.some.injEq] at hi
      subst hi
      obtain rfl := f3 (pre_of hall 3 rfl)
      refine wpOp_value (v := .agg (ints .u32 (numOf v))) rfl rfl (run_loadRange rfl rfl ((SV.below' hW).part hpl) Try.ar83 (numOf_len _)) ?_
      exact ⟨_, _, _, _, _, _, _, _, _, _, _, _, _, _, _, rfl, hW, (fun h => f0 (rl h)), (fun h => f1 (rl h)), (fun h => f2 (rl h)), (fun h => f3 (rl h)), (fun _ => rfl), (fun h => f5 (rl h)), (fun h => f6 (rl h)), (fun h => f7 (rl h)), (fun h => f8 (rl h)), (fun h => f9 (rl h)), (fun h => f10 (rl h)), (fun h => f11 (rl h)), (fun h => f12 (rl h)), (fun h => f13 (rl h))⟩
    · simp only [Nat.zero_add, Nat.reduceAdd, List.getElem?_toArray, List.getElem?_cons_succ, List.getElem?_cons_zero, Option.some.injEq] at hi
      subst hi
      refine wpOp_load rfl rfl rfl rfl (B0.below' hW) Try.ar83 hcl ?_
      exact ⟨_, _, _, _, _, _, _, _, _, _, _, _, _, _, _, rfl, hW, (fun h => f0 (rl h)), (fun h => f1 (rl h)), (fun h => f2 (rl h)), (fun h => f3 (rl h)), (fun h => f4 (rl h)), (fun _ => rfl), (fun h => f6 (rl h)), (fun h => f7 (rl h)), (fun h => f8 (rl h)), (fun h => f9 (rl h)), (fun h => f10 (rl h)), (fun h => f11 (rl h)), (fun h => f12 (rl h)), (fun h => f13 (rl h))⟩
    · simp only [Nat.zero_add, Nat.reduceAdd, List.getElem?_toArray, List.getElem?_cons_succ, List.getElem?_cons_zero, Option.some.injEq] at hi
      subst hi
      obtain rfl := f4 (pre_of hall 4 rfl)
      obtain rfl := f5 (pre_of hall 5 rfl)
      refine wpOp_call 61 rfl rfl rfl Try.func61 (by kernel_rfl) (by kernel_rfl) (plus_c (numOf v) (numOf c) (numOf_len _) (lt32 _) (numOf_len _) (lt32 _) W) ?_
      intro W' hW'
      exact ⟨_, _, _, _, _, _, _, _, _, _, _, _, _, _, _, rfl, bCall hW hW' hW.size, (fun h => f0 (rl h)), (fun h => f1 (rl h)), (fun h => f2 (rl h)), (fun h => f3 (rl h)), (fun h => f4 (rl h)), (fun h => f5 (rl h)), (fun _ => rfl), (fun h => f7 (rl h)), (fun h => f8 (rl h)), (fun h => f9 (rl h)), (fun h => f10 (rl h)), (fun h => f11 (rl h)), (fun h => f12 (rl h)), (fun h => f13 (rl h))⟩
    · simp only [Nat.zero_add, Nat.reduceAdd, List.getElem?_toArray, List.getElem?_cons_succ, List.getElem?_cons_zero, Option.some.injEq] at hi
      subst hi
      refine wpOp_value (v := .pointer (some ⟨g, 0, none⟩)) rfl rfl rfl ?_
      exact ⟨_, _, _, _, _, _, _, _, _, _, _, _, _, _, _, rfl, hW, (fun h => f0 (rl h)), (fun h => f1 (rl h)), (fun h => f2 (rl h)), (fun h => f3 (rl h)), (fun h => f4 (rl h)), (fun h => f5 (rl h)), (fun h => f6 (rl h)), (fun _ => rfl), (fun h => f8 (rl h)), (fun h => f9 (rl h)), (fun h => f10 (rl h)), (fun h => f11 (rl h)), (fun h => f12 (rl h)), (fun h => f13 (rl h))⟩
    · simp only [Nat.zero_add, Nat.reduceAdd, List.getElem?_toArray, List.getElem?_cons_succ, List.getElem?_cons_zero, Option.some.injEq] at hi
      subst hi
      obtain rfl := f7 (pre_of hall 7 rfl)
      refine wpOp_value (v := .pointer (some ⟨g, 0, none⟩)) rfl rfl (by kernel_rfl) ?_
      exact ⟨_, _, _, _, _, _, _, _, _, _, _, _, _, _, _, rfl, hW, (fun h => f0 (rl h)), (fun h => f1 (rl h)), (fun h => f2 (rl h)), (fun h => f3 (rl h)), (fun h => f4 (rl h)), (fun h => f5 (rl h)), (fun h => f6 (rl h)), (fun h => f7 (rl h)), (fun _ => rfl), (fun h => f9 (rl h)), (fun h => f10 (rl h)), (fun h => f11 (rl h)), (fun h => f12 (rl h)), (fun h => f13 (rl h))⟩
    · simp only [Nat.zero_add, Nat.reduceAdd, List.getElem?_toArray, List.getElem?_cons_succ, List.getElem?_cons_zero, Option.some.injEq] at hi
      subst hi
      obtain rfl := f8 (pre_of hall 8 rfl)
      refine wpOp_value (v := .pointer (some ⟨g, 0, none⟩)) rfl rfl (by kernel_rfl) ?_
      exact ⟨_, _, _, _, _, _, _, _, _, _, _, _, _, _, _, rfl, hW, (fun h => f0 (rl h)), (fun h => f1 (rl h)), (fun h => f2 (rl h)), (fun h => f3 (rl h)), (fun h => f4 (rl h)), (fun h => f5 (rl h)), (fun h => f6 (rl h)), (fun h => f7 (rl h)), (fun h => f8 (rl h)), (fun _ => rfl), (fun h => f10 (rl h)), (fun h => f11 (rl h)), (fun h => f12 (rl h)), (fun h => f13 (rl h))⟩
    · simp only [Nat.zero_add, Nat.reduceAdd, List.getElem?_toArray, List.getElem?_cons_succ, List.getElem?_cons_zero, Option.some.injEq] at hi
      subst hi
      obtain rfl := f9 (pre_of hall 9 rfl)
      refine wpOp_value (v := .agg (ints .u32 (numOf r))) rfl rfl (run_loadRange rfl rfl ((SR.below' hW).part rfl) Try.ar83 (numOf_len _)) ?_
      exact ⟨_, _, _, _, _, _, _, _, _, _, _, _, _, _, _, rfl, hW, (fun h => f0 (rl h)), (fun h => f1 (rl h)), (fun h => f2 (rl h)), (fun h => f3 (rl h)), (fun h => f4 (rl h)), (fun h => f5 (rl h)), (fun h => f6 (rl h)), (fun h => f7 (rl h)), (fun h => f8 (rl h)), (fun h => f9 (rl h)), (fun _ => rfl), (fun h => f11 (rl h)), (fun h => f12 (rl h)), (fun h => f13 (rl h))⟩
    · simp only [Nat.zero_add, Nat.reduceAdd, List.getElem?_toArray, List.getElem?_cons_succ, List.getElem?_cons_zero, Option.some.injEq] at hi
      subst hi
      obtain rfl := f6 (pre_of hall 6 rfl)
      obtain rfl := f10 (pre_of hall 10 rfl)
      refine wpOp_call 62 rfl rfl rfl Try.func62 (by kernel_rfl) (by kernel_rfl) (times_c _ (numOf r) (numOf_len _) (lt32 _) (numOf_len _) (lt32 _) W) ?_
      intro W' hW'
      exact ⟨_, _, _, _, _, _, _, _, _, _, _, _, _, _, _, rfl, bCall hW hW' hW.size, (fun h => f0 (rl h)), (fun h => f1 (rl h)), (fun h => f2 (rl h)), (fun h => f3 (rl h)), (fun h => f4 (rl h)), (fun h => f5 (rl h)), (fun h => f6 (rl h)), (fun h => f7 (rl h)), (fun h => f8 (rl h)), (fun h => f9 (rl h)), (fun h => f10 (rl h)), (fun _ => rfl), (fun h => f12 (rl h)), (fun h => f13 (rl h))⟩
    · simp only [Nat.zero_add, Nat.reduceAdd, List.getElem?_toArray, List.getElem?_cons_succ, List.getElem?_cons_zero, Option.some.injEq] at hi
      subst hi
      obtain rfl := f0 (pre_of hall 0 rfl)
      refine wpOp_value (v := .pointer (some ⟨g, 0, none⟩)) rfl rfl (by kernel_rfl) ?_
      exact ⟨_, _, _, _, _, _, _, _, _, _, _, _, _, _, _, rfl, hW, (fun h => f0 (rl h)), (fun h => f1 (rl h)), (fun h => f2 (rl h)), (fun h => f3 (rl h)), (fun h => f4 (rl h)), (fun h => f5 (rl h)), (fun h => f6 (rl h)), (fun h => f7 (rl h)), (fun h => f8 (rl h)), (fun h => f9 (rl h)), (fun h => f10 (rl h)), (fun h => f11 (rl h)), (fun _ => rfl), (fun h => f13 (rl h))⟩
    · simp only [Nat.zero_add, Nat.reduceAdd, List.getElem?_toArray, List.getElem?_cons_succ, List.getElem?_cons_zero, Option.some.injEq] at hi
      subst hi
      obtain rfl := f12 (pre_of hall 12 rfl)
      refine wpOp_value (v := .pointer (some ⟨g, 5, none⟩)) rfl rfl (by kernel_rfl) ?_
      exact ⟨_, _, _, _, _, _, _, _, _, _, _, _, _, _, _, rfl, hW, (fun h => f0 (rl h)), (fun h => f1 (rl h)), (fun h => f2 (rl h)), (fun h => f3 (rl h)), (fun h => f4 (rl h)), (fun h => f5 (rl h)), (fun h => f6 (rl h)), (fun h => f7 (rl h)), (fun h => f8 (rl h)), (fun h => f9 (rl h)), (fun h => f10 (rl h)), (fun h => f11 (rl h)), (fun h => f12 (rl h)), (fun _ => rfl)⟩
    · exfalso; omega
  · rintro D act_ W ⟨u2, u4, u5, u6, u7, u8, u9, u10, u11, u12, u13, u14, u15, u16, u17, rfl, hW, f0, f1, f2, f3, f4, f5, f6, f7, f8, f9, f10, f11, f12, f13⟩ hall
    obtain rfl := f0 (hall 0 (by decide))
    obtain rfl := f1 (hall 1 (by decide))
    obtain rfl := f2 (hall 2 (by decide))
    obtain rfl := f3 (hall 3 (by decide))
    obtain rfl := f4 (hall 4 (by decide))
    obtain rfl := f5 (hall 5 (by decide))
    obtain rfl := f6 (hall 6 (by decide))
    obtain rfl := f7 (hall 7 (by decide))
    obtain rfl := f8 (hall 8 (by decide))
    obtain rfl := f9 (hall 9 (by decide))
    obtain rfl := f10 (hall 10 (by decide))
    obtain rfl := f11 (hall 11 (by decide))
    obtain rfl := f12 (hall 12 (by decide))
    obtain rfl := f13 (hall 13 (by decide))
    clear f0 f1 f2 f3 f4 f5 f6 f7 f8 f9 f10 f11 f12 f13 hall
    refine wpOp_store_part rfl rfl 83 _ _ rfl 5 (vs := vals .u32 (numOf (val (numOf (val (numOf v) + val (numOf c))) * val (numOf r)))) rfl rfl (SV.below' hW) hpl Try.ar83 (by rw [vals_len]; exact numOf_len _) (by rw [vals_len]; exact numOf_len _) (vals_one _ _) ?_
    intro w5 S5 F5
    rw [part_num, ← smC_v] at S5
    have hch5 := (hch.trans (Ch.of_below hW)).trans (Ch.of_far F5)
    go_wp2_with fail
    refine bodyPost_end (v := .tuple #[]) (by simp [results, Try.results50]) rfl ⟨rfl, S5, hch5⟩
end Go.Proofs.Ytolfngmpoafaaaa
