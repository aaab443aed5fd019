/- XFill: what this claim uses. Laid by slim.py (ours). -/
import Derived.Test.YtlbfpjhnpnbikaaKXDisk2
import Derived.Laws.Tables
namespace Go.Proofs.Ytlbfpjhnpnbikaa.X
set_option linter.unusedVariables false
open Go Go.RowKit
open Go.Proofs.YtlbfpjhnpnbikaaW.PrintWords
theorem list_set_mid {α : Type} (l : List α) (o : Nat) (x : α) (v : List α) (h : o < l.length) : (l.set o x).take (o + 1) ++ (v ++ (l.set o x).drop (o + 1 + v.length)) = l.take o ++ (x :: v ++ l.drop (o + (v.length + 1))) := by
  have h1 : (l.set o x).take (o + 1) = l.take o ++ [x] := by
    rw [List.take_succ_eq_append_getElem (by rw [List.length_set]; exact h), List.take_set_of_le (Nat.le_refl _), List.getElem_set_self]
  have h2 : (l.set o x).drop (o + 1 + v.length) = l.drop (o + (v.length + 1)) := by
    rw [List.drop_set_of_lt (by omega)]
    congr 1
    omega
  rw [h1, h2]
  simp
theorem over_list (off : Nat) : ∀ (v : List Value) (k : Nat) (cells : Array Value), off + k + v.length ≤ cells.size →
    ((v.zipIdx k).foldl (fun cs p => cs.setIfInBounds (off + p.2) p.1) cells).toList = cells.toList.take (off + k) ++ (v ++ cells.toList.drop (off + k + v.length))
  | [], k, cells, h => by simp
  | x :: v, k, cells, h => by
    rw [List.zipIdx_cons, List.foldl_cons, over_list off v (k + 1) (cells.setIfInBounds (off + k) x) (by rw [Array.size_setIfInBounds]; simp at h; omega), Array.toList_setIfInBounds]
    simp only [List.length_cons] at h ⊢
    have := list_set_mid cells.toList (off + k) x v (by rw [Array.length_toList]; omega)
    rw [← Nat.add_assoc off k 1]
    exact this
theorem over_array (off : Nat) (v cells : Array Value) (h : off + v.size ≤ cells.size) : v.zipIdx.foldl (fun cs p => cs.setIfInBounds (off + p.2) p.1) cells = (cells.toList.take off ++ (v.toList ++ cells.toList.drop (off + v.size))).toArray := by
  have := over_list off v.toList 0 cells (by rw [Array.length_toList]; omega)
  rw [Nat.add_zero, Array.length_toList] at this
  rw [← this, ← Array.foldl_toList]
  simp [Array.toList_zipIdx]
theorem fill_one (place : Nat → Option (Nat × Nat)) (cells : Array Value) (i : Nat) (v : Value) (rest : List (Nat × Value)) (off : Nat) (hp : place i = some (off, v.cells.size)) (h : off + v.cells.size ≤ cells.size) :
    Instr.fill place cells ((i, v) :: rest) = Instr.fill place (cells.toList.take off ++ (v.cells.toList ++ cells.toList.drop (off + v.cells.size))).toArray rest := by
  rw [Instr.fill]
  simp only [hp]
  rw [if_neg (by simp; omega)]
  congr 1
  exact over_array off v.cells cells h
theorem built_two {P : Program} {t : TypeId} {z : Array Value} {it : TypeInfo} {fs : Array Field} (hi : P.info? t = some it) (hz : it.zero = some (.agg z)) (hu : P.underlying t = some (.struct fs)) (m : Nat)
    (hf : fs.toList.mapM (fun f => (P.info? f.type).map fun i => (f.offset, i.size)) = some [(0, 1), (1, m)]) (hzs : z.size = m + 1) (k : IntKind) (a : Int) (dx : List Value) (hd : dx.length = m) :
    P.built t [(0, .int k a), (1, .agg dx.toArray)] = some (.int k a :: dx).toArray := by
  unfold Program.built
  rw [hi, hu]
  simp only [hz, hf]
  rw [fill_one _ _ 0 (.int k a) _ 0 rfl (by show 0 + 1 ≤ z.size; omega)]
  rw [fill_one _ _ 1 (.agg dx.toArray) _ 1 (by show some (1, m) = some (1, dx.toArray.size); rw [List.size_toArray, hd]) (by
    show 1 + dx.toArray.size ≤ _
    simp [Value.cells]
    omega)]
  rw [Instr.fill]
  congr 1
  have e1 : z.toList.drop (m + 1) = [] := List.drop_eq_nil_of_le (by rw [Array.length_toList]; omega)
  have e2 : m + 1 = dx.length + 1 := by rw [hd]
  rw [e2] at e1
  simp [Value.cells, Nat.add_comm 1, e1]
theorem slice_one {P : Program} {w : World} {st t : TypeId} {z : Array Value} {it : TypeInfo} (hs : P.underlying st = some (.slice t)) (hi : P.info? t = some it) (hz : ∀ w, (zeroValue t).run P w = .ok (.agg z) w) (m : Nat) (hm : it.size = m) (h0 : 0 < m) (h24 : m ≤ 16777216) (cs : List Value) (hc : cs.length = m) (hzs : z.size = m) :
    (Instr.buildSlice st 1 #[(0, .agg cs.toArray)]).run P w = .ok (.slice (some ⟨w.heap.size, 0, none⟩) 1 1) (w.alloc (.cells cs.toArray t)) := by
  have hf : Instr.fill (fun i => some (i * m, m)) ((Array.range (1 * m)).map (z[· % z.size]!)) [(0, .agg cs.toArray)] = some cs.toArray := by
    rw [fill_one _ _ 0 (.agg cs.toArray) [] 0 (by simp [Value.cells, hc]) (by simp [Value.cells, hc]), Instr.fill]
    congr 1
    simp [Value.cells, hc]
  have hsz : (sizeOf t).run P w = .ok m w := by simp [sizeOf, typeInfo, hi, hm]
  unfold Instr.buildSlice
  simp only [Sem.run_bind, run_underlying hs, hsz, Result.andThen_ok, Nat.one_mul]
  rw [Nat.one_mul] at hf
  rw [if_neg (by omega), if_neg (by omega)]
  simp only [Sem.run_bind, Sem.run_pure, hz, Result.andThen_ok, Value.cells]
  rw [hf]
  simp [newRow, newObj, Sem.run, Result.andThen]
theorem build_exec {P : Program} {w : World} {oi : Oper} {ρ : Operand → Value} {t : TypeId} (x y : Operand) (ho : oi.op = .build t #[(0, x), (1, y)]) (k : IntKind) (a : Int) (dx : List Value) (hx : ρ x = .int k a) (hy : ρ y = .agg dx.toArray) (hb : P.built t [(0, .int k a), (1, .agg dx.toArray)] = some (.int k a :: dx).toArray) :
    (execOp ρ oi).run P w = .ok (.value (.agg (.int k a :: dx).toArray)) w := by
  have h := run_build (P := P) w t #[(0, .int k a), (1, .agg dx.toArray)] _ hb
  unfold execOp
  simp only [ho, List.map_toArray, List.map_cons, List.map_nil, hx, hy, Sem.run_bind, Sem.run_pure, Result.andThen_ok, h]
theorem slice_exec {P : Program} {w w1 : World} {oi : Oper} {ρ : Operand → Value} {t : TypeId} (x : Operand) (ho : oi.op = .buildSlice t 1 #[(0, x)]) (v u : Value) (hx : ρ x = v) (hb : (Instr.buildSlice t 1 #[(0, v)]).run P w = .ok u w1) :
    (execOp ρ oi).run P w = .ok (.value u) w1 := by
  unfold execOp
  simp only [ho, List.map_toArray, List.map_cons, List.map_nil, hx, Sem.run_bind, Sem.run_pure, Result.andThen_ok, hb]
theorem wpList_slice {P : Program} {W w1 : World} {ops : Array Oper} {rest : List Oper} {o : Oper} {a : Act} {Q : Exit → Act → World → Prop} (hgd : o.guard = none) {t : TypeId} (x : Operand) (ho : o.op = .buildSlice t 1 #[(0, x)]) (v u : Value) (hx : a.eval x = v) (hb : (Instr.buildSlice t 1 #[(0, v)]).run P W = .ok u w1)
    (h : wpList P ops Q rest (a.put o.dst u) w1) : wpList P ops Q (o :: rest) a W := by
  refine wpList_plain hgd fun K hK => ?_
  unfold Oper.wp
  rw [slice_exec x ho v u hx hb]
  exact hK _ _ h
theorem C_raw_one {w : World} {g : Nat} {cs : List Value} {t : TypeId} {m : Nat} (hb : Blk w g cs.toArray t) (hl : cs.length = m) (h1 : ∀ v ∈ cs, v.oneCell' = true) : (Kd.raw m).C w (some ⟨g, 0, none⟩) 1 [cs] := by
  refine ⟨rfl, by decide, fun _ => ⟨_, rfl, fun j p hj => ?_⟩⟩
  have hj0 : j = 0 := by
    rcases Nat.eq_zero_or_pos j with h | h
    · exact h
    · rw [List.getElem?_eq_none (by simp; omega)] at hj
      cases hj
  subst hj0
  simp only [List.getElem?_cons_zero, Option.some.injEq] at hj
  subst hj
  refine ⟨cs, hl, ⟨rfl, hl, h1⟩, fun i u hu => ?_⟩
  rw [add_at, Nat.zero_mul, Nat.zero_add, Nat.zero_add]
  exact hb.cell i u (by simpa using hu)
end Go.Proofs.Ytlbfpjhnpnbikaa.X
