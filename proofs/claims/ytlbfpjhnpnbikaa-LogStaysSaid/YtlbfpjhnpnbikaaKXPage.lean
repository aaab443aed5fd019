/- XPage: what this claim uses. Laid by slim.py (ours). -/
import Derived.Test.YtlbfpjhnpnbikaaKXWords
import Derived.Lib.BufferWrite
import Derived.Lib.SliceRun
namespace Go.Proofs.Ytlbfpjhnpnbikaa.X
open Go Go.RowKit Go.Lib
open Go.Proofs.YtlbfpjhnpnbikaaW.PrintWords
def nums (s : ByteArray) : List Int := s.data.toList.map fun b => (b.toNat : Int)
theorem nums_length (s : ByteArray) : (nums s).length = s.size := by
  unfold nums
  rw [List.length_map]
  exact (Lib.size_eq s).symm
theorem nums_cells (s : ByteArray) : byteCells s.data.toList = encs (Value.int .u8) (nums s) := by
  unfold nums byteCells encs
  rw [List.map_map]
  rfl
theorem lay_cells {xs ys : List Int} {cur : List Value} {j : Nat} (k : IntKind) (hle : xs.length ≤ cur.length) (htk : cur.take xs.length = encs (Value.int k) xs) (hj : j + ys.length ≤ xs.length) :
    (cur.take j ++ encs (Value.int k) ys ++ cur.drop (j + ys.length)).take xs.length = encs (Value.int k) (lay xs j ys) := by
  have hat : ∀ i, i < xs.length → cur[i]? = (encs (Value.int k) xs)[i]? := by
    intro i hi
    rw [← htk, List.getElem?_take, if_pos hi]
  have hln : (lay xs j ys).length = xs.length := lay_length hj
  apply List.ext_getElem?
  intro i
  rw [List.getElem?_take]
  by_cases hi : i < xs.length
  · rw [if_pos hi]
    unfold lay
    rw [encs_append, encs_append, List.append_assoc]
    simp only [encs, List.map_take, List.map_drop]
    rw [List.getElem?_append (l₁ := List.take j cur), List.getElem?_append (l₁ := List.take j (xs.map (Value.int k))), List.length_take, List.length_take, List.length_map]
    by_cases h1 : i < j
    · rw [if_pos (by omega), if_pos (by omega), List.getElem?_take, List.getElem?_take, if_pos h1, if_pos h1]
      exact hat i hi
    · rw [if_neg (by omega), if_neg (by omega), show min j cur.length = min j xs.length from by omega, List.getElem?_append (l₁ := ys.map (Value.int k)), List.getElem?_append (l₁ := ys.map (Value.int k))]
      by_cases h2 : i - min j xs.length < (ys.map (Value.int k)).length
      · rw [if_pos h2, if_pos h2]
      · rw [if_neg h2, if_neg h2, List.getElem?_drop, List.getElem?_drop, List.length_map]
        rw [List.length_map] at h2
        have hx := hat (j + ys.length + (i - min j xs.length - ys.length)) (by omega)
        simpa [encs] using hx
  · rw [if_neg hi, List.getElem?_eq_none (by rw [encs_length, hln]; omega)]
theorem lay_row {W : World} {base n cap j g : Nat} {e : TypeId} {xs ys : List Int} {ok : Nat → Prop} (k : IntKind) (HO : (Kd.int k).R e W base ok (.slice (some ⟨g, 0, none⟩) n cap) xs) (hj : j + ys.length ≤ n) :
    ∃ cur, W.heap[g]? = some (.cells cur e (0, 0)) ∧ n ≤ cap ∧ cur.size = cap ∧ base ≤ g ∧
      (Kd.int k).R e (W.setRow g (cur.toList.take j ++ encs (Value.int k) ys ++ cur.toList.drop (j + ys.length)).toArray) base ok (.slice (some ⟨g, 0, none⟩) n cap) (lay xs j ys) := by
  have hxl : n = xs.length := (Kd.R_reads' HO).1
  have hown := Kd.own_of_R (enc := Value.int k) (h1 := fun _ => rfl) HO
  rcases hown.2 with ⟨hv, _⟩ | ⟨g', cap', cur, hv, hb, hh, hnc, hcm, hcs, htake⟩
  · cases hv
  injection hv with hv1 hv2 hv3
  injection hv1 with hv1
  injection hv1 with hv1
  subst hv1
  subst hv3
  have hcs1 : cur.size = cap := by omega
  refine ⟨cur, hh, by omega, hcs1, hb, Kd.R_of_own (enc := Value.int k) (h1 := fun _ => rfl) ?_ HO.1⟩
  have hln : (lay xs j ys).length = xs.length := lay_length (by omega)
  have hcl : cur.toList.length = cap := by rw [Array.length_toList]; exact hcs1
  rw [hln]
  refine ⟨by rw [encs_length, hln, Nat.mul_one], .inr ⟨g, cap, _, by rw [hxl], hb, setRow_heap W g cur _ e (0, 0) hh, by omega, hcm, ?_, ?_⟩⟩
  · simp only [List.size_toArray, List.length_append, List.length_take, List.length_drop, encs_length, hcl]
    omega
  · rw [Nat.mul_one]
    exact lay_cells k (by rw [hcl]; omega) (by rw [← htake, Nat.mul_one]) (by omega)
theorem grownBy_setRow (W : World) (g : Nat) (cs : Array Value) : W.grownBy (W.setRow g cs) (some g) := ⟨rfl, rfl, rfl, by simp, fun k _ hk => setRow_other W g k cs (fun e => hk (by rw [e]))⟩
theorem copyS_at {P : Program} {w0 W : World} {ops : Array Oper} {rest : List Oper} {o : Oper} {a : Act} {Q : Exit → Act → World → Prop} (base : Nat) (hgd : o.guard = none) (x : Operand) (y : Operand) (t t' e : TypeId)
    (ho : o.op = .call { callee := .builtin .copy, args := #[x, y], argTypes := #[t, t'] }) (ht : P.underlying t = some (.slice e)) (hinfo : (P.info? e).map (·.size) = some 1)
    (g n cap j dl dc : Nat) (s : ByteArray) (xs : List Int) (ok : Nat → Prop) (hx : a.eval x = .slice (some ⟨g, j, none⟩) dl dc) (hy : a.eval y = .string s)
    (HO : (Kd.int .u8).R e W base ok (.slice (some ⟨g, 0, none⟩) n cap) xs) (hfit : s.size ≤ dl) (hj : j + s.size ≤ n) (HB : Below base w0 W) (hbase : base ≤ W.heap.size)
    (h : ∀ w1, (Kd.int .u8).R e w1 base ok (.slice (some ⟨g, 0, none⟩) n cap) (lay xs j (nums s)) → Below base w0 w1 → W.grownBy w1 (some g) → wpList P ops Q rest (a.put o.dst (.int .i64 (s.size : Int))) w1) :
    wpList P ops Q (o :: rest) a W := by
  obtain ⟨cur, h1, h2, h3, h4, h5⟩ := lay_row (ys := nums s) (j := j) .u8 HO (by rw [nums_length]; exact hj)
  have hr := run_copy_row_string (P := P) W t t' o.type e g j dl dc s cur e ht hinfo h1 hfit (by omega)
  rw [nums_cells] at hr
  rw [nums_length] at h5
  have hg := grownBy_setRow W g (cur.toList.take j ++ encs (Value.int .u8) (nums s) ++ cur.toList.drop (j + s.size)).toArray
  refine wpList_plain hgd fun K hK => ?_
  unfold Oper.wp execOp
  simp only [ho, resolve, invoke, builtin, Sem.run_bind, Sem.run_pure, Result.andThen_ok, List.map_toArray, List.map_cons, List.map_nil, hx, hy, hr]
  exact hK _ _ (h _ h5 (HB.grown hg hbase (fun k' e => by injection e with e; omega)) hg)
theorem clear_at {P : Program} {w0 W : World} {ops : Array Oper} {rest : List Oper} {o : Oper} {a : Act} {Q : Exit → Act → World → Prop} (k : IntKind) (base : Nat) (hgd : o.guard = none) (x : Operand) (t e : TypeId)
    (ho : o.op = .call { callee := .builtin .clear, args := #[x], argTypes := #[t] }) (ht : P.underlying t = some (.slice e)) (hz : ∀ w, (zeroValue e).run P w = .ok (.int k 0) w)
    (g n cap j m c : Nat) (xs : List Int) (ok : Nat → Prop) (hx : a.eval x = .slice (some ⟨g, j, none⟩) m c)
    (HO : (Kd.int k).R e W base ok (.slice (some ⟨g, 0, none⟩) n cap) xs) (hm : 0 < m) (hj : j + m ≤ n) (HB : Below base w0 W) (hbase : base ≤ W.heap.size)
    (h : ∀ w1, (Kd.int k).R e w1 base ok (.slice (some ⟨g, 0, none⟩) n cap) (lay xs j (List.replicate m 0)) → Below base w0 w1 → W.grownBy w1 (some g) → wpList P ops Q rest (a.put o.dst (.tuple #[])) w1) :
    wpList P ops Q (o :: rest) a W := by
  have hxl : n = xs.length := (Kd.R_reads' HO).1
  have hown := Kd.own_of_R (enc := Value.int k) (h1 := fun _ => rfl) HO
  rcases hown.2 with ⟨hv, _⟩ | ⟨g', cap', cur, hv, hb, hh, hnc, hcm, hcs, htake⟩
  · cases hv
  injection hv with hv1 hv2 hv3
  injection hv1 with hv1
  injection hv1 with hv1
  subst hv1
  subst hv3
  have hcs1 : cur.size = cap := by omega
  have hcl : cur.toList.length = cap := by rw [Array.length_toList]; exact hcs1
  have hkl : (encs (Value.int k) (List.replicate m 0)).length = m := by rw [encs_length, List.length_replicate]
  have hr := run_clear_slice (P := P) W t e o.type (.int k 0) ht hz rfl rfl g j m c hm (fun i hi => by rw [cell_of_row W g _ cur e (0, 0) hh]; simp; omega) (fun i _ => blk_frozen hh _)
  have hre : List.replicate m (Value.int k 0) = encs (Value.int k) (List.replicate m 0) := by simp [encs]
  rw [hre] at hr
  obtain ⟨cur', h3, h4, h5⟩ := setCells_row (encs (Value.int k) (List.replicate m 0)) j W cur hh (by rw [hkl]; omega)
  obtain ⟨s1, s2, s3, s4⟩ := setCells_same g (encs (Value.int k) (List.replicate m 0)) j W
  have hln : (lay xs j (List.replicate m 0)).length = xs.length := lay_length (by rw [List.length_replicate]; omega)
  have hrow : (Kd.int k).R e (W.setCells g j (encs (Value.int k) (List.replicate m 0))) base ok (.slice (some ⟨g, 0, none⟩) n cap) (lay xs j (List.replicate m 0)) := by
    refine Kd.R_of_own (enc := Value.int k) (h1 := fun _ => rfl) ?_ HO.1
    rw [hln]
    refine ⟨by rw [encs_length, hln, Nat.mul_one], .inr ⟨g, cap, cur', by rw [hxl], hb, h3, by omega, hcm, by rw [h4, hcs], ?_⟩⟩
    rw [h5, hkl, Nat.mul_one]
    have := lay_cells (ys := List.replicate m 0) (j := j) k (by rw [hcl]; omega) (by rw [← htake, Nat.mul_one]) (by rw [List.length_replicate]; omega)
    rw [List.length_replicate] at this
    exact this
  have hg : W.grownBy (W.setCells g j (encs (Value.int k) (List.replicate m 0))) (some g) := ⟨s1, s2, s3, by rw [s4]; exact Nat.le_refl _, fun k' _ hk => setCells_far _ _ k' (fun he => hk (by rw [he]))⟩
  refine wpList_plain hgd fun K hK => ?_
  unfold Oper.wp execOp
  simp only [ho, resolve, invoke, builtin, Sem.run_bind, Sem.run_pure, Result.andThen_ok, List.map_toArray, List.map_cons, List.map_nil, hx, hr]
  exact hK _ _ (h _ hrow (HB.grown hg hbase (fun k' e => by injection e with e; omega)) hg)
end Go.Proofs.Ytlbfpjhnpnbikaa.X
