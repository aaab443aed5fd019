/- Words of ours: a struct built of a number and an array, and a row of one such. -/
import Derived.Test.YtbpkjkdbijifbaaXDisk2
import Derived.Laws.Tables
namespace Go.Proofs.Ytbpkjkdbijifbaa.X
set_option linter.unusedVariables false
open Go Go.RowKit
open Go.Proofs.YtbpkjkdbijifbaaW.PrintWords

theorem list_set_mid {α : Type} (l : List α) (o : Nat) (x : α) (v : List α) (h : o < l.length) : (l.set o x).take (o + 1) ++ (v ++ (l.set o x).drop (o + 1 + v.length)) = l.take o ++ (x :: v ++ l.drop (o + (v.length + 1))) := by
  have h1 : (l.set o x).take (o + 1) = l.take o ++ [x] := by
    rw [List.take_succ_eq_append_getElem (by rw [List.length_set]; exact h), List.take_set_of_le (Nat.le_refl _), List.getElem_set_self]
  have h2 : (l.set o x).drop (o + 1 + v.length) = l.drop (o + (v.length + 1)) := by
    rw [List.drop_set_of_lt (by omega)]
    congr 1
    omega
  rw [h1, h2]
  simp
theorem over_list (off : Nat) : ∀ (v : List Value) (k : Nat) (cells : Array Value), off + k + v.length ≤ cells.size →
    ((v.zipIdx k).foldl (fun cs p => cs.setIfInBounds (off + p.2) p.1) cells).toList = cells.toList.take (off + k) ++ (v ++ cells.toList.drop (off + k + v.length))
  | [], k, cells, h => by simp
  | x :: v, k, cells, h => by
    rw [List.zipIdx_cons, List.foldl_cons, over_list off v (k + 1) (cells.setIfInBounds (off + k) x) (by rw [Array.size_setIfInBounds]; simp at h; omega), Array.toList_setIfInBounds]
    simp only [List.length_cons] at h ⊢
    have := list_set_mid cells.toList (off + k) x v (by rw [Array.length_toList]; omega)
    rw [← Nat.add_assoc off k 1]
    exact this
theorem over_array (off : Nat) (v cells : Array Value) (h : off + v.size ≤ cells.size) : v.zipIdx.foldl (fun cs p => cs.setIfInBounds (off + p.2) p.1) cells = (cells.toList.take off ++ (v.toList ++ cells.toList.drop (off + v.size))).toArray := by
  have := over_list off v.toList 0 cells (by rw [Array.length_toList]; omega)
  rw [Nat.add_zero, Array.length_toList] at this
  rw [← this, ← Array.foldl_toList]
  simp [Array.toList_zipIdx]
theorem fill_one (place : Nat → Option (Nat × Nat)) (cells : Array Value) (i : Nat) (v : Value) (rest : List (Nat × Value)) (off : Nat) (hp : place i = some (off, v.cells.size)) (h : off + v.cells.size ≤ cells.size) :
    Instr.fill place cells ((i, v) :: rest) = Instr.fill place (cells.toList.take off ++ (v.cells.toList ++ cells.toList.drop (off + v.cells.size))).toArray rest := by
  rw [Instr.fill]
  simp only [hp]
  rw [if_neg (by simp; omega)]
  congr 1
  exact over_array off v.cells cells h
/-- A struct of one number and a row of n cells behind it. -/
theorem built_two {P : Program} {t : TypeId} {z : Array Value} {it : TypeInfo} {fs : Array Field} (hi : P.info? t = some it) (hz : it.zero = some (.agg z)) (hu : P.underlying t = some (.struct fs)) (m : Nat)
    (hf : fs.toList.mapM (fun f => (P.info? f.type).map fun i => (f.offset, i.size)) = some [(0, 1), (1, m)]) (hzs : z.size = m + 1) (k : IntKind) (a : Int) (dx : List Value) (hd : dx.length = m) :
    P.built t [(0, .int k a), (1, .agg dx.toArray)] = some (.int k a :: dx).toArray := by
  unfold Program.built
  rw [hi, hu]
  simp only [hz, hf]
  rw [fill_one _ _ 0 (.int k a) _ 0 rfl (by show 0 + 1 ≤ z.size; omega)]
  rw [fill_one _ _ 1 (.agg dx.toArray) _ 1 (by show some (1, m) = some (1, dx.toArray.size); rw [List.size_toArray, hd]) (by
    show 1 + dx.toArray.size ≤ _
    simp [Value.cells]
    omega)]
  rw [Instr.fill]
  congr 1
  have e1 : z.toList.drop (m + 1) = [] := List.drop_eq_nil_of_le (by rw [Array.length_toList]; omega)
  have e2 : m + 1 = dx.length + 1 := by rw [hd]
  rw [e2] at e1
  simp [Value.cells, Nat.add_comm 1, e1]
/-- A row of one such. -/
theorem slice_one {P : Program} {w : World} {st t : TypeId} {z : Array Value} {it : TypeInfo} (hs : P.underlying st = some (.slice t)) (hi : P.info? t = some it) (hz : ∀ w, (zeroValue t).run P w = .ok (.agg z) w) (m : Nat) (hm : it.size = m) (h0 : 0 < m) (h24 : m ≤ 16777216) (cs : List Value) (hc : cs.length = m) (hzs : z.size = m) :
    (Instr.buildSlice st 1 #[(0, .agg cs.toArray)]).run P w = .ok (.slice (some ⟨w.heap.size, 0, none⟩) 1 1) (w.alloc (.cells cs.toArray t)) := by
  have hf : Instr.fill (fun i => some (i * m, m)) ((Array.range (1 * m)).map (z[· % z.size]!)) [(0, .agg cs.toArray)] = some cs.toArray := by
    rw [fill_one _ _ 0 (.agg cs.toArray) [] 0 (by simp [Value.cells, hc]) (by simp [Value.cells, hc]), Instr.fill]
    congr 1
    simp [Value.cells, hc]
  have hsz : (sizeOf t).run P w = .ok m w := by simp [sizeOf, typeInfo, hi, hm]
  unfold Instr.buildSlice
  simp only [Sem.run_bind, run_underlying hs, hsz, Result.andThen_ok, Nat.one_mul]
  rw [Nat.one_mul] at hf
  rw [if_neg (by omega), if_neg (by omega)]
  simp only [Sem.run_bind, Sem.run_pure, hz, Result.andThen_ok, Value.cells]
  rw [hf]
  simp [newRow, newObj, Sem.run, Result.andThen]
theorem build_exec {P : Program} {w : World} {oi : Oper} {ρ : Operand → Value} {t : TypeId} (x y : Operand) (ho : oi.op = .build t #[(0, x), (1, y)]) (k : IntKind) (a : Int) (dx : List Value) (hx : ρ x = .int k a) (hy : ρ y = .agg dx.toArray) (hb : P.built t [(0, .int k a), (1, .agg dx.toArray)] = some (.int k a :: dx).toArray) :
    (execOp ρ oi).run P w = .ok (.value (.agg (.int k a :: dx).toArray)) w := by
  have h := run_build (P := P) w t #[(0, .int k a), (1, .agg dx.toArray)] _ hb
  unfold execOp
  simp only [ho, List.map_toArray, List.map_cons, List.map_nil, hx, hy, Sem.run_bind, Sem.run_pure, Result.andThen_ok, h]
theorem slice_exec {P : Program} {w w1 : World} {oi : Oper} {ρ : Operand → Value} {t : TypeId} (x : Operand) (ho : oi.op = .buildSlice t 1 #[(0, x)]) (v u : Value) (hx : ρ x = v) (hb : (Instr.buildSlice t 1 #[(0, v)]).run P w = .ok u w1) :
    (execOp ρ oi).run P w = .ok (.value u) w1 := by
  unfold execOp
  simp only [ho, List.map_toArray, List.map_cons, List.map_nil, hx, Sem.run_bind, Sem.run_pure, Result.andThen_ok, hb]
theorem wpList_slice {P : Program} {W w1 : World} {ops : Array Oper} {rest : List Oper} {o : Oper} {a : Act} {Q : Exit → Act → World → Prop} (hgd : o.guard = none) {t : TypeId} (x : Operand) (ho : o.op = .buildSlice t 1 #[(0, x)]) (v u : Value) (hx : a.eval x = v) (hb : (Instr.buildSlice t 1 #[(0, v)]).run P W = .ok u w1)
    (h : wpList P ops Q rest (a.put o.dst u) w1) : wpList P ops Q (o :: rest) a W := by
  refine wpList_plain hgd fun K hK => ?_
  unfold Oper.wp
  rw [slice_exec x ho v u hx hb]
  exact hK _ _ h
/-- A row of one element that is its cells. -/
theorem C_raw_one {w : World} {g : Nat} {cs : List Value} {t : TypeId} {m : Nat} (hb : Blk w g cs.toArray t) (hl : cs.length = m) (h1 : ∀ v ∈ cs, v.oneCell' = true) : (Kd.raw m).C w (some ⟨g, 0, none⟩) 1 [cs] := by
  refine ⟨rfl, by decide, fun _ => ⟨_, rfl, fun j p hj => ?_⟩⟩
  have hj0 : j = 0 := by
    rcases Nat.eq_zero_or_pos j with h | h
    · exact h
    · rw [List.getElem?_eq_none (by simp; omega)] at hj
      cases hj
  subst hj0
  simp only [List.getElem?_cons_zero, Option.some.injEq] at hj
  subst hj
  refine ⟨cs, hl, ⟨rfl, hl, h1⟩, fun i u hu => ?_⟩
  rw [add_at, Nat.zero_mul, Nat.zero_add, Nat.zero_add]
  exact hb.cell i u (by simpa using hu)
theorem C_pre {w : World} {k : IntKind} {A : Option Addr} {m d : Nat} {ys : List Int} (h : (Kd.int k).C w A m ys) (hd : d ≤ m) : (Kd.int k).C w A d (ys.take d) := by
  have h1 := h.1
  refine ⟨by rw [List.length_take]; omega, Nat.le_trans hd h.2.1, fun h0 => ?_⟩
  obtain ⟨ad, e, hc⟩ := h.2.2 (by omega)
  refine ⟨ad, e, fun j p hj => hc j p ?_⟩
  rw [List.getElem?_take] at hj
  split at hj
  · exact hj
  · cases hj
theorem copy_cut {P : Program} {w : World} (t t' ty : TypeId) (D A : Option Addr) (dl dc m c : Nat) (h : dl ≤ m) : (Builtin.copy_ #[t, t'] ty #[.slice D dl dc, .slice A m c]).run P w = (Builtin.copy_ #[t, t'] ty #[.slice D dl dc, .slice A dl c]).run P w := by
  have e1 : Nat.min m dl = dl := Nat.min_eq_right h
  have e2 : Nat.min dl dl = dl := Nat.min_self dl
  cases A <;> simp [Builtin.copy_, Builtin.lenOf, Builtin.firstCells, e1, e2]
/-- copy into a part of an own row from a row that is longer than the part. -/
theorem copy_step_cut {P : Program} {w0 W : World} {ops : Array Oper} {o : Oper} {a : Act} {Q : Exit → Act → World → Prop} {Kc : Act → World → Prop} {N : Option Tmp} (k : IntKind) (base : Nat) (hw : Region.wanted o (yielded ops a.tmps) = true) (hN : o.dst = N) (s x : Operand) (t t' e : TypeId)
    (ho : o.op = .call { callee := .builtin .copy, args := #[s, x], argTypes := #[t, t'] }) (ht : P.underlying t = some (.slice e)) (hinfo : (P.info? e).map (·.size) = some 1)
    (g n cap j dl dc : Nat) (A : Option Addr) (m c : Nat) (xs ys : List Int) (ok : Nat → Prop) (hs : a.eval s = .slice (some ⟨g, j, none⟩) dl dc) (hx : a.eval x = .slice A m c)
    (HO : (Kd.int k).R e W base ok (.slice (some ⟨g, 0, none⟩) n cap) xs) (HR : (Kd.int k).C W A m ys) (hfit : dl ≤ m) (hj : j + dl ≤ n) (HB : Below base w0 W) (hbase : base ≤ W.heap.size)
    (h : ∀ w1, (Kd.int k).R e w1 base ok (.slice (some ⟨g, 0, none⟩) n cap) (lay xs j (ys.take dl)) → Below base w0 w1 → W.grownBy w1 (some g) → Kc (a.put N (.int .i64 (dl : Int))) w1) :
    if Region.wanted o (yielded ops a.tmps) = true then Oper.wp P o a W Kc Q else Kc (a.put N undef) W := by
  obtain ⟨w1, hr, h1, h2, h3⟩ := copy_run (P := P) k base t t' o.type e ht hinfo g n cap j dl dc A dl c xs (ys.take dl) ok HO (C_pre HR hfit) (Nat.le_refl _) hj HB hbase
  rw [if_pos hw]
  subst hN
  unfold Oper.wp execOp
  simp only [ho, resolve, invoke, builtin, Sem.run_bind, Sem.run_pure, Result.andThen_ok, List.map_toArray, List.map_cons, List.map_nil, hs, hx, copy_cut t t' o.type (some ⟨g, j, none⟩) A dl dc m c hfit, hr]
  exact h w1 h1 h2 h3
end Go.Proofs.Ytbpkjkdbijifbaa.X
