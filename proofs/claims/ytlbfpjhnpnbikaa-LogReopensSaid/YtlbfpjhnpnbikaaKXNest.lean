/- XFill XNest: what this claim uses. Laid by slim.py (ours). -/
import Derived.Test.YtlbfpjhnpnbikaaKXDisk2
import Derived.Laws.Tables
import Derived.Test.YtlbfpjhnpnbikaaKXSep
section
namespace Go.Proofs.Ytlbfpjhnpnbikaa.X
set_option linter.unusedVariables false
open Go Go.RowKit
open Go.Proofs.YtlbfpjhnpnbikaaW.PrintWords
theorem list_set_mid {α : Type} (l : List α) (o : Nat) (x : α) (v : List α) (h : o < l.length) : (l.set o x).take (o + 1) ++ (v ++ (l.set o x).drop (o + 1 + v.length)) = l.take o ++ (x :: v ++ l.drop (o + (v.length + 1))) := by
  have h1 : (l.set o x).take (o + 1) = l.take o ++ [x] := by
    rw [List.take_succ_eq_append_getElem (by rw [List.length_set]; exact h), List.take_set_of_le (Nat.le_refl _), List.getElem_set_self]
  have h2 : (l.set o x).drop (o + 1 + v.length) = l.drop (o + (v.length + 1)) := by
    rw [List.drop_set_of_lt (by omega)]
    congr 1
    omega
  rw [h1, h2]
  simp
theorem over_list (off : Nat) : ∀ (v : List Value) (k : Nat) (cells : Array Value), off + k + v.length ≤ cells.size →
    ((v.zipIdx k).foldl (fun cs p => cs.setIfInBounds (off + p.2) p.1) cells).toList = cells.toList.take (off + k) ++ (v ++ cells.toList.drop (off + k + v.length))
  | [], k, cells, h => by simp
  | x :: v, k, cells, h => by
    rw [List.zipIdx_cons, List.foldl_cons, over_list off v (k + 1) (cells.setIfInBounds (off + k) x) (by rw [Array.size_setIfInBounds]; simp at h; omega), Array.toList_setIfInBounds]
    simp only [List.length_cons] at h ⊢
    have := list_set_mid cells.toList (off + k) x v (by rw [Array.length_toList]; omega)
    rw [← Nat.add_assoc off k 1]
    exact this
theorem over_array (off : Nat) (v cells : Array Value) (h : off + v.size ≤ cells.size) : v.zipIdx.foldl (fun cs p => cs.setIfInBounds (off + p.2) p.1) cells = (cells.toList.take off ++ (v.toList ++ cells.toList.drop (off + v.size))).toArray := by
  have := over_list off v.toList 0 cells (by rw [Array.length_toList]; omega)
  rw [Nat.add_zero, Array.length_toList] at this
  rw [← this, ← Array.foldl_toList]
  simp [Array.toList_zipIdx]
theorem fill_one (place : Nat → Option (Nat × Nat)) (cells : Array Value) (i : Nat) (v : Value) (rest : List (Nat × Value)) (off : Nat) (hp : place i = some (off, v.cells.size)) (h : off + v.cells.size ≤ cells.size) :
    Instr.fill place cells ((i, v) :: rest) = Instr.fill place (cells.toList.take off ++ (v.cells.toList ++ cells.toList.drop (off + v.cells.size))).toArray rest := by
  rw [Instr.fill]
  simp only [hp]
  rw [if_neg (by simp; omega)]
  congr 1
  exact over_array off v.cells cells h
theorem built_two {P : Program} {t : TypeId} {z : Array Value} {it : TypeInfo} {fs : Array Field} (hi : P.info? t = some it) (hz : it.zero = some (.agg z)) (hu : P.underlying t = some (.struct fs)) (m : Nat)
    (hf : fs.toList.mapM (fun f => (P.info? f.type).map fun i => (f.offset, i.size)) = some [(0, 1), (1, m)]) (hzs : z.size = m + 1) (k : IntKind) (a : Int) (dx : List Value) (hd : dx.length = m) :
    P.built t [(0, .int k a), (1, .agg dx.toArray)] = some (.int k a :: dx).toArray := by
  unfold Program.built
  rw [hi, hu]
  simp only [hz, hf]
  rw [fill_one _ _ 0 (.int k a) _ 0 rfl (by show 0 + 1 ≤ z.size; omega)]
  rw [fill_one _ _ 1 (.agg dx.toArray) _ 1 (by show some (1, m) = some (1, dx.toArray.size); rw [List.size_toArray, hd]) (by
    show 1 + dx.toArray.size ≤ _
    simp [Value.cells]
    omega)]
  rw [Instr.fill]
  congr 1
  have e1 : z.toList.drop (m + 1) = [] := List.drop_eq_nil_of_le (by rw [Array.length_toList]; omega)
  have e2 : m + 1 = dx.length + 1 := by rw [hd]
  rw [e2] at e1
  simp [Value.cells, Nat.add_comm 1, e1]
theorem slice_one {P : Program} {w : World} {st t : TypeId} {z : Array Value} {it : TypeInfo} (hs : P.underlying st = some (.slice t)) (hi : P.info? t = some it) (hz : ∀ w, (zeroValue t).run P w = .ok (.agg z) w) (m : Nat) (hm : it.size = m) (h0 : 0 < m) (h24 : m ≤ 16777216) (cs : List Value) (hc : cs.length = m) (hzs : z.size = m) :
    (Instr.buildSlice st 1 #[(0, .agg cs.toArray)]).run P w = .ok (.slice (some ⟨w.heap.size, 0, none⟩) 1 1) (w.alloc (.cells cs.toArray t)) := by
  have hf : Instr.fill (fun i => some (i * m, m)) ((Array.range (1 * m)).map (z[· % z.size]!)) [(0, .agg cs.toArray)] = some cs.toArray := by
    rw [fill_one _ _ 0 (.agg cs.toArray) [] 0 (by simp [Value.cells, hc]) (by simp [Value.cells, hc]), Instr.fill]
    congr 1
    simp [Value.cells, hc]
  have hsz : (sizeOf t).run P w = .ok m w := by simp [sizeOf, typeInfo, hi, hm]
  unfold Instr.buildSlice
  simp only [Sem.run_bind, run_underlying hs, hsz, Result.andThen_ok, Nat.one_mul]
  rw [Nat.one_mul] at hf
  rw [if_neg (by omega), if_neg (by omega)]
  simp only [Sem.run_bind, Sem.run_pure, hz, Result.andThen_ok, Value.cells]
  rw [hf]
  simp [newRow, newObj, Sem.run, Result.andThen]
theorem build_exec {P : Program} {w : World} {oi : Oper} {ρ : Operand → Value} {t : TypeId} (x y : Operand) (ho : oi.op = .build t #[(0, x), (1, y)]) (k : IntKind) (a : Int) (dx : List Value) (hx : ρ x = .int k a) (hy : ρ y = .agg dx.toArray) (hb : P.built t [(0, .int k a), (1, .agg dx.toArray)] = some (.int k a :: dx).toArray) :
    (execOp ρ oi).run P w = .ok (.value (.agg (.int k a :: dx).toArray)) w := by
  have h := run_build (P := P) w t #[(0, .int k a), (1, .agg dx.toArray)] _ hb
  unfold execOp
  simp only [ho, List.map_toArray, List.map_cons, List.map_nil, hx, hy, Sem.run_bind, Sem.run_pure, Result.andThen_ok, h]
theorem slice_exec {P : Program} {w w1 : World} {oi : Oper} {ρ : Operand → Value} {t : TypeId} (x : Operand) (ho : oi.op = .buildSlice t 1 #[(0, x)]) (v u : Value) (hx : ρ x = v) (hb : (Instr.buildSlice t 1 #[(0, v)]).run P w = .ok u w1) :
    (execOp ρ oi).run P w = .ok (.value u) w1 := by
  unfold execOp
  simp only [ho, List.map_toArray, List.map_cons, List.map_nil, hx, Sem.run_bind, Sem.run_pure, Result.andThen_ok, hb]
theorem wpList_slice {P : Program} {W w1 : World} {ops : Array Oper} {rest : List Oper} {o : Oper} {a : Act} {Q : Exit → Act → World → Prop} (hgd : o.guard = none) {t : TypeId} (x : Operand) (ho : o.op = .buildSlice t 1 #[(0, x)]) (v u : Value) (hx : a.eval x = v) (hb : (Instr.buildSlice t 1 #[(0, v)]).run P W = .ok u w1)
    (h : wpList P ops Q rest (a.put o.dst u) w1) : wpList P ops Q (o :: rest) a W := by
  refine wpList_plain hgd fun K hK => ?_
  unfold Oper.wp
  rw [slice_exec x ho v u hx hb]
  exact hK _ _ h
theorem C_raw_one {w : World} {g : Nat} {cs : List Value} {t : TypeId} {m : Nat} (hb : Blk w g cs.toArray t) (hl : cs.length = m) (h1 : ∀ v ∈ cs, v.oneCell' = true) : (Kd.raw m).C w (some ⟨g, 0, none⟩) 1 [cs] := by
  refine ⟨rfl, by decide, fun _ => ⟨_, rfl, fun j p hj => ?_⟩⟩
  have hj0 : j = 0 := by
    rcases Nat.eq_zero_or_pos j with h | h
    · exact h
    · rw [List.getElem?_eq_none (by simp; omega)] at hj
      cases hj
  subst hj0
  simp only [List.getElem?_cons_zero, Option.some.injEq] at hj
  subst hj
  refine ⟨cs, hl, ⟨rfl, hl, h1⟩, fun i u hu => ?_⟩
  rw [add_at, Nat.zero_mul, Nat.zero_add, Nat.zero_add]
  exact hb.cell i u (by simpa using hu)
end Go.Proofs.Ytlbfpjhnpnbikaa.X
end
section
namespace Go.Proofs.Ytlbfpjhnpnbikaa.X
set_option linter.unusedVariables false
open Go Go.RowKit
open Go.Proofs.YtlbfpjhnpnbikaaW.PrintWords
section
variable {w0 w w' : World} {L A : List Res} {R : Res}
theorem Lies.push (h : Lies w0 w (R :: .sep A :: L)) (i : Nat) (hi : A[i]? = some .emp) : Lies w0 w (.sep (A.set i R) :: L) := by
  obtain ⟨hb, O, S, h1, h2, h3, h4, h5⟩ := h
  obtain ⟨Of, Sf, g1, g2, g3, g4, g5⟩ := h1 1 _ rfl
  have hR := h1 0 _ rfl
  have hlt := (List.getElem?_eq_some_iff.1 hi).1
  refine ⟨hb, fun m k => match m with | 0 => O 0 k ∨ O 1 k | m + 1 => O (m + 2) k, fun m k => match m with | 0 => S 0 k ∨ S 1 k | m + 1 => S (m + 2) k, ?_, ?_, ?_, ?_, ?_⟩
  · intro m R2 hR2
    match m with
    | 0 =>
      simp only [List.getElem?_cons_zero, Option.some.injEq] at hR2
      subst hR2
      refine ⟨fun j k => (j = i ∧ O 0 k) ∨ (j ≠ i ∧ Of j k), fun j k => (j = i ∧ S 0 k) ∨ (j ≠ i ∧ Sf j k), fun j R3 hR3 => ?_, fun j k hk => hk.elim (fun h => .inl h.2) (fun h => .inr (g2 j k h.2)), fun j k hk => hk.elim (fun h => .inl h.2) (fun h => .inr (g3 j k h.2)), ?_, ?_⟩
      · by_cases hj : j = i
        · subst hj
          rw [List.getElem?_set_self hlt] at hR3
          injection hR3 with hR3
          subst hR3
          have e1 : (fun k => (j = j ∧ O 0 k) ∨ (j ≠ j ∧ Of j k)) = O 0 := by funext k; exact propext ⟨fun h => h.elim (fun h => h.2) (fun h => absurd rfl h.1), fun h => .inl ⟨rfl, h⟩⟩
          have e2 : (fun k => (j = j ∧ S 0 k) ∨ (j ≠ j ∧ Sf j k)) = S 0 := by funext k; exact propext ⟨fun h => h.elim (fun h => h.2) (fun h => absurd rfl h.1), fun h => .inl ⟨rfl, h⟩⟩
          show R.holds w (fun k => (j = j ∧ O 0 k) ∨ (j ≠ j ∧ Of j k)) (fun k => (j = j ∧ S 0 k) ∨ (j ≠ j ∧ Sf j k))
          rw [e1, e2]
          exact hR
        · rw [List.getElem?_set_ne (Ne.symm hj)] at hR3
          have e1 : (fun k => (j = i ∧ O 0 k) ∨ (j ≠ i ∧ Of j k)) = Of j := by funext k; exact propext ⟨fun h => h.elim (fun h => absurd h.1 hj) (fun h => h.2), fun h => .inr ⟨hj, h⟩⟩
          have e2 : (fun k => (j = i ∧ S 0 k) ∨ (j ≠ i ∧ Sf j k)) = Sf j := by funext k; exact propext ⟨fun h => h.elim (fun h => absurd h.1 hj) (fun h => h.2), fun h => .inr ⟨hj, h⟩⟩
          show R3.holds w (fun k => (j = i ∧ O 0 k) ∨ (j ≠ i ∧ Of j k)) (fun k => (j = i ∧ S 0 k) ∨ (j ≠ i ∧ Sf j k))
          rw [e1, e2]
          exact g1 j R3 hR3
      · rintro a b k (⟨rfl, ha⟩ | ⟨ha, ha'⟩) (⟨rfl, hc⟩ | ⟨hc, hc'⟩)
        · rfl
        · exact absurd (h4 0 1 k ha (g2 b k hc')) (by omega)
        · exact absurd (h4 1 0 k (g2 a k ha') hc) (by omega)
        · exact g4 a b k ha' hc'
      · rintro a b k (⟨rfl, ha⟩ | ⟨ha, ha'⟩) (⟨rfl, hc⟩ | ⟨hc, hc'⟩)
        · exact h5 0 0 k ha hc
        · exact h5 0 1 k ha (g3 b k hc')
        · exact h5 1 0 k (g2 a k ha') hc
        · exact g5 a b k ha' hc'
    | m + 1 => exact h1 (m + 2) R2 (by simpa using hR2)
  · intro m k hk
    match m with
    | 0 => exact hk.elim (h2 0 k) (h2 1 k)
    | m + 1 => exact h2 (m + 2) k hk
  · intro m k hk
    match m with
    | 0 => exact hk.elim (h3 0 k) (h3 1 k)
    | m + 1 => exact h3 (m + 2) k hk
  · intro a b k ha hc
    match a, b with
    | 0, 0 => rfl
    | 0, b + 1 => exact ha.elim (fun h => absurd (h4 0 (b + 2) k h hc) (by omega)) (fun h => absurd (h4 1 (b + 2) k h hc) (by omega))
    | a + 1, 0 => exact hc.elim (fun h => absurd (h4 (a + 2) 0 k ha h) (by omega)) (fun h => absurd (h4 (a + 2) 1 k ha h) (by omega))
    | a + 1, b + 1 => have := h4 (a + 2) (b + 2) k ha hc; omega
  · intro a b k ha hc
    match a, b with
    | 0, 0 => exact ha.elim (fun h => hc.elim (h5 0 0 k h) (h5 0 1 k h)) (fun h => hc.elim (h5 1 0 k h) (h5 1 1 k h))
    | 0, b + 1 => exact ha.elim (fun h => h5 0 (b + 2) k h hc) (fun h => h5 1 (b + 2) k h hc)
    | a + 1, 0 => exact hc.elim (fun h => h5 (a + 2) 0 k ha h) (fun h => h5 (a + 2) 1 k ha h)
    | a + 1, b + 1 => exact h5 (a + 2) (b + 2) k ha hc
theorem Lies.snoc (h : Lies w0 w (.sep A :: R :: L)) : Lies w0 w (.sep (A ++ [R]) :: L) := Lies.close (A ++ [R]) (by have := h.open_; rwa [List.append_assoc])
end
def Res.wown (v : Value) (l : List (Int × Value × List Int)) : Res := .sep [.row (Kd.raw 2) 66 v (l.map fun x => [.int .i64 x.1, x.2.1]), .sep (l.map fun x => .row (Kd.int .u8) 5 x.2.1 x.2.2)]
section
variable {β : Type} {f : β → Int × List Int} {w0 w w' : World} {L : List Res} {v : Value} {l : List (Int × Value × List Int)} {xs : List β}
abbrev kWrite (f : β → Int × List Int) : Kd β := Kd.iso (Kd.pair (Kd.int .i64) (Kd.slice 5 (Kd.int .u8))) f
theorem Lies.wopen (h : Lies w0 w (.wown v l :: L)) : Lies w0 w (.row (Kd.raw 2) 66 v (l.map fun x => [.int .i64 x.1, x.2.1]) :: .sep (l.map fun x => .row (Kd.int .u8) 5 x.2.1 x.2.2) :: L) := h.open_
theorem Lies.wclose (h : Lies w0 w (.row (Kd.raw 2) 66 v (l.map fun x => [.int .i64 x.1, x.2.1]) :: .sep (l.map fun x => .row (Kd.int .u8) 5 x.2.1 x.2.2) :: L)) : Lies w0 w (.wown v l :: L) := Lies.close [_, _] h
theorem wown_holds {O S : Nat → Prop} (hh : (Res.wown v l).holds w O S) (hx : xs.map f = l.map fun x => (x.1, x.2.2)) : ∃ A c, v = .slice A l.length c ∧ l.length ≤ c ∧ (kWrite f).C w A l.length xs ∧ (0 < l.length → ∃ g, A = some ⟨g, 0, none⟩) := by
  obtain ⟨Of, Sf, g1, -⟩ := hh
  have hr : (Kd.raw 2).R 66 w 0 (Of 0) v (l.map fun x => [.int .i64 x.1, x.2.1]) := g1 0 _ rfl
  obtain ⟨Og, Sg, k1, -⟩ := g1 1 _ rfl
  obtain ⟨A, c, rfl, hc, hC⟩ := Kd.R_reads hr
  have hxl : xs.length = l.length := by have := congrArg List.length hx; simpa using this
  rw [List.length_map] at hc hC ⊢
  refine ⟨A, c, rfl, hc, ⟨hxl, hC.2.1, fun h0 => ?_⟩, fun h0 => ?_⟩
  · obtain ⟨ad, rfl, hcc⟩ := hC.2.2 h0
    refine ⟨ad, rfl, fun j p hj => ?_⟩
    have hlt : j < l.length := by have := (List.getElem?_eq_some_iff.1 hj).1; omega
    obtain ⟨cs, hcs, ⟨e1, _, h1⟩, hcell⟩ := hcc j _ (by rw [List.getElem?_map, List.getElem?_eq_getElem hlt]; rfl)
    have hrow : ((l.map fun x => Res.row (Kd.int .u8) 5 x.2.1 x.2.2) : List Res)[j]? = some (.row (Kd.int .u8) 5 l[j].2.1 l[j].2.2) := by rw [List.getElem?_map, List.getElem?_eq_getElem hlt]; rfl
    obtain ⟨A2, c2, e2, hc2, hC2⟩ := Kd.R_reads (k1 j _ hrow)
    have e3 : f p = (l[j].1, l[j].2.2) := by
      have h3 := congrArg (fun z => z[j]?) hx
      simp only [List.getElem?_map, hj, List.getElem?_eq_getElem hlt, Option.map_some, Option.some.injEq] at h3
      exact h3
    refine ⟨cs, hcs, ⟨[.int .i64 l[j].1], [l[j].2.1], e1, ?_, ?_⟩, hcell⟩
    · show [Value.int .i64 l[j].1] = [Value.int .i64 (f p).1]
      rw [e3]
    · show ∃ A c, [l[j].2.1] = [Value.slice A (f p).2.length c] ∧ (f p).2.length ≤ c ∧ (Kd.int .u8).C w A (f p).2.length (f p).2
      rw [e3]
      exact ⟨A2, c2, by rw [e2], hc2, hC2⟩
  · obtain ⟨g, cap, e, -⟩ := Kd.R_form hr (by rw [List.length_map]; exact h0)
    injection e with e
    exact ⟨g, e⟩
theorem Lies.wown_reads (h : Lies w0 w L) (i : Nat) (hi : L[i]? = some (.wown v l)) (hx : xs.map f = l.map fun x => (x.1, x.2.2)) : ∃ A c, v = .slice A l.length c ∧ l.length ≤ c ∧ (kWrite f).C w A l.length xs ∧ (0 < l.length → ∃ g, A = some ⟨g, 0, none⟩) := by
  obtain ⟨O, S, hh⟩ := h.at i hi
  exact wown_holds hh hx
theorem Lies.wsnoc {u : Value} {b : Int} {ys : List Int} (h : Lies w0 w (.wown v l :: .row (Kd.int .u8) 5 u ys :: L)) : ∃ ok : Nat → Prop, (Kd.raw 2).R 66 w 0 ok v (l.map fun x => [.int .i64 x.1, x.2.1]) ∧ (∀ k, w.heap.size ≤ k → ok k) ∧
    ∀ {v1 : Value} {w1 : World}, (Kd.raw 2).R 66 w1 0 ok v1 ((l.map fun x => [.int .i64 x.1, x.2.1]) ++ [[.int .i64 b, u]]) → w.grownBy w1 v.ownBlock → Lies w0 w1 (.wown v1 (l ++ [(b, u, ys)]) :: L) := by
  obtain ⟨ok, h1, h2, h3⟩ := h.wopen.grown1
  refine ⟨ok, h1, h2, fun hr hg => ?_⟩
  have h4 := ((h3 hr hg).perm [1, 2, 0] 3 (by decide) (by decide))
  have h5 : Lies w0 _ (.sep (l.map fun x => .row (Kd.int .u8) 5 x.2.1 x.2.2) :: .row (Kd.int .u8) 5 u ys :: .row (Kd.raw 2) 66 _ _ :: L) := h4
  have h6 := h5.snoc.swap
  refine Lies.wclose ?_
  rw [List.map_append, List.map_append]
  exact h6
theorem Lies.wnone (h : Lies w0 w L) : Lies w0 w (.wown (.slice none 0 0) [] :: L) :=
  h.new (O := fun _ => False) (S := fun _ => False) (Below.refl _ _) ⟨fun _ _ => False, fun _ _ => False, fun i R hR => by
    match i with
    | 0 => simp only [List.getElem?_cons_zero, Option.some.injEq] at hR; subst hR; exact Kd.R_nil _ _ _ _ _
    | 1 => simp only [List.getElem?_cons_succ, List.getElem?_cons_zero, Option.some.injEq] at hR; subst hR; exact ⟨fun _ _ => False, fun _ _ => False, fun i R hR => by simp at hR, fun _ _ h => h, fun _ _ h => h, fun _ _ _ h => h.elim, fun _ _ _ h => h.elim⟩
    | i + 2 => simp at hR, fun _ _ h => h, fun _ _ h => h, fun _ _ _ h => h.elim, fun _ _ _ h => h.elim⟩ (fun _ h => h.elim) (fun _ h => h.elim) (fun _ h => h.elim)
end
end Go.Proofs.Ytlbfpjhnpnbikaa.X
end
