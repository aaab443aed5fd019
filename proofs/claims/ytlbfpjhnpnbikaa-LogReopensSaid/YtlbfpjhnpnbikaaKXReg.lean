/- XPage XRef2 XReg: what this claim uses. Laid by slim.py (ours). -/
import Derived.Test.YtlbfpjhnpnbikaaKXWords
import Derived.Lib.BufferWrite
import Derived.Lib.SliceRun
import Derived.Test.YtlbfpjhnpnbikaaKXMap
import Derived.Test.YtlbfpjhnpnbikaaKXNest
import Derived.Test.YtlbfpjhnpnbikaaKWLast
section
namespace Go.Proofs.Ytlbfpjhnpnbikaa.X
open Go Go.RowKit Go.Lib
open Go.Proofs.YtlbfpjhnpnbikaaW.PrintWords
def nums (s : ByteArray) : List Int := s.data.toList.map fun b => (b.toNat : Int)
theorem nums_length (s : ByteArray) : (nums s).length = s.size := by
  unfold nums
  rw [List.length_map]
  exact (Lib.size_eq s).symm
theorem nums_cells (s : ByteArray) : byteCells s.data.toList = encs (Value.int .u8) (nums s) := by
  unfold nums byteCells encs
  rw [List.map_map]
  rfl
theorem lay_cells {xs ys : List Int} {cur : List Value} {j : Nat} (k : IntKind) (hle : xs.length ≤ cur.length) (htk : cur.take xs.length = encs (Value.int k) xs) (hj : j + ys.length ≤ xs.length) :
    (cur.take j ++ encs (Value.int k) ys ++ cur.drop (j + ys.length)).take xs.length = encs (Value.int k) (lay xs j ys) := by
  have hat : ∀ i, i < xs.length → cur[i]? = (encs (Value.int k) xs)[i]? := by
    intro i hi
    rw [← htk, List.getElem?_take, if_pos hi]
  have hln : (lay xs j ys).length = xs.length := lay_length hj
  apply List.ext_getElem?
  intro i
  rw [List.getElem?_take]
  by_cases hi : i < xs.length
  · rw [if_pos hi]
    unfold lay
    rw [encs_append, encs_append, List.append_assoc]
    simp only [encs, List.map_take, List.map_drop]
    rw [List.getElem?_append (l₁ := List.take j cur), List.getElem?_append (l₁ := List.take j (xs.map (Value.int k))), List.length_take, List.length_take, List.length_map]
    by_cases h1 : i < j
    · rw [if_pos (by omega), if_pos (by omega), List.getElem?_take, List.getElem?_take, if_pos h1, if_pos h1]
      exact hat i hi
    · rw [if_neg (by omega), if_neg (by omega), show min j cur.length = min j xs.length from by omega, List.getElem?_append (l₁ := ys.map (Value.int k)), List.getElem?_append (l₁ := ys.map (Value.int k))]
      by_cases h2 : i - min j xs.length < (ys.map (Value.int k)).length
      · rw [if_pos h2, if_pos h2]
      · rw [if_neg h2, if_neg h2, List.getElem?_drop, List.getElem?_drop, List.length_map]
        rw [List.length_map] at h2
        have hx := hat (j + ys.length + (i - min j xs.length - ys.length)) (by omega)
        simpa [encs] using hx
  · rw [if_neg hi, List.getElem?_eq_none (by rw [encs_length, hln]; omega)]
theorem lay_row {W : World} {base n cap j g : Nat} {e : TypeId} {xs ys : List Int} {ok : Nat → Prop} (k : IntKind) (HO : (Kd.int k).R e W base ok (.slice (some ⟨g, 0, none⟩) n cap) xs) (hj : j + ys.length ≤ n) :
    ∃ cur, W.heap[g]? = some (.cells cur e (0, 0)) ∧ n ≤ cap ∧ cur.size = cap ∧ base ≤ g ∧
      (Kd.int k).R e (W.setRow g (cur.toList.take j ++ encs (Value.int k) ys ++ cur.toList.drop (j + ys.length)).toArray) base ok (.slice (some ⟨g, 0, none⟩) n cap) (lay xs j ys) := by
  have hxl : n = xs.length := (Kd.R_reads' HO).1
  have hown := Kd.own_of_R (enc := Value.int k) (h1 := fun _ => rfl) HO
  rcases hown.2 with ⟨hv, _⟩ | ⟨g', cap', cur, hv, hb, hh, hnc, hcm, hcs, htake⟩
  · cases hv
  injection hv with hv1 hv2 hv3
  injection hv1 with hv1
  injection hv1 with hv1
  subst hv1
  subst hv3
  have hcs1 : cur.size = cap := by omega
  refine ⟨cur, hh, by omega, hcs1, hb, Kd.R_of_own (enc := Value.int k) (h1 := fun _ => rfl) ?_ HO.1⟩
  have hln : (lay xs j ys).length = xs.length := lay_length (by omega)
  have hcl : cur.toList.length = cap := by rw [Array.length_toList]; exact hcs1
  rw [hln]
  refine ⟨by rw [encs_length, hln, Nat.mul_one], .inr ⟨g, cap, _, by rw [hxl], hb, setRow_heap W g cur _ e (0, 0) hh, by omega, hcm, ?_, ?_⟩⟩
  · simp only [List.size_toArray, List.length_append, List.length_take, List.length_drop, encs_length, hcl]
    omega
  · rw [Nat.mul_one]
    exact lay_cells k (by rw [hcl]; omega) (by rw [← htake, Nat.mul_one]) (by omega)
theorem grownBy_setRow (W : World) (g : Nat) (cs : Array Value) : W.grownBy (W.setRow g cs) (some g) := ⟨rfl, rfl, rfl, by simp, fun k _ hk => setRow_other W g k cs (fun e => hk (by rw [e]))⟩
theorem copyS_at {P : Program} {w0 W : World} {ops : Array Oper} {rest : List Oper} {o : Oper} {a : Act} {Q : Exit → Act → World → Prop} (base : Nat) (hgd : o.guard = none) (x : Operand) (y : Operand) (t t' e : TypeId)
    (ho : o.op = .call { callee := .builtin .copy, args := #[x, y], argTypes := #[t, t'] }) (ht : P.underlying t = some (.slice e)) (hinfo : (P.info? e).map (·.size) = some 1)
    (g n cap j dl dc : Nat) (s : ByteArray) (xs : List Int) (ok : Nat → Prop) (hx : a.eval x = .slice (some ⟨g, j, none⟩) dl dc) (hy : a.eval y = .string s)
    (HO : (Kd.int .u8).R e W base ok (.slice (some ⟨g, 0, none⟩) n cap) xs) (hfit : s.size ≤ dl) (hj : j + s.size ≤ n) (HB : Below base w0 W) (hbase : base ≤ W.heap.size)
    (h : ∀ w1, (Kd.int .u8).R e w1 base ok (.slice (some ⟨g, 0, none⟩) n cap) (lay xs j (nums s)) → Below base w0 w1 → W.grownBy w1 (some g) → wpList P ops Q rest (a.put o.dst (.int .i64 (s.size : Int))) w1) :
    wpList P ops Q (o :: rest) a W := by
  obtain ⟨cur, h1, h2, h3, h4, h5⟩ := lay_row (ys := nums s) (j := j) .u8 HO (by rw [nums_length]; exact hj)
  have hr := run_copy_row_string (P := P) W t t' o.type e g j dl dc s cur e ht hinfo h1 hfit (by omega)
  rw [nums_cells] at hr
  rw [nums_length] at h5
  have hg := grownBy_setRow W g (cur.toList.take j ++ encs (Value.int .u8) (nums s) ++ cur.toList.drop (j + s.size)).toArray
  refine wpList_plain hgd fun K hK => ?_
  unfold Oper.wp execOp
  simp only [ho, resolve, invoke, builtin, Sem.run_bind, Sem.run_pure, Result.andThen_ok, List.map_toArray, List.map_cons, List.map_nil, hx, hy, hr]
  exact hK _ _ (h _ h5 (HB.grown hg hbase (fun k' e => by injection e with e; omega)) hg)
theorem clear_at {P : Program} {w0 W : World} {ops : Array Oper} {rest : List Oper} {o : Oper} {a : Act} {Q : Exit → Act → World → Prop} (k : IntKind) (base : Nat) (hgd : o.guard = none) (x : Operand) (t e : TypeId)
    (ho : o.op = .call { callee := .builtin .clear, args := #[x], argTypes := #[t] }) (ht : P.underlying t = some (.slice e)) (hz : ∀ w, (zeroValue e).run P w = .ok (.int k 0) w)
    (g n cap j m c : Nat) (xs : List Int) (ok : Nat → Prop) (hx : a.eval x = .slice (some ⟨g, j, none⟩) m c)
    (HO : (Kd.int k).R e W base ok (.slice (some ⟨g, 0, none⟩) n cap) xs) (hm : 0 < m) (hj : j + m ≤ n) (HB : Below base w0 W) (hbase : base ≤ W.heap.size)
    (h : ∀ w1, (Kd.int k).R e w1 base ok (.slice (some ⟨g, 0, none⟩) n cap) (lay xs j (List.replicate m 0)) → Below base w0 w1 → W.grownBy w1 (some g) → wpList P ops Q rest (a.put o.dst (.tuple #[])) w1) :
    wpList P ops Q (o :: rest) a W := by
  have hxl : n = xs.length := (Kd.R_reads' HO).1
  have hown := Kd.own_of_R (enc := Value.int k) (h1 := fun _ => rfl) HO
  rcases hown.2 with ⟨hv, _⟩ | ⟨g', cap', cur, hv, hb, hh, hnc, hcm, hcs, htake⟩
  · cases hv
  injection hv with hv1 hv2 hv3
  injection hv1 with hv1
  injection hv1 with hv1
  subst hv1
  subst hv3
  have hcs1 : cur.size = cap := by omega
  have hcl : cur.toList.length = cap := by rw [Array.length_toList]; exact hcs1
  have hkl : (encs (Value.int k) (List.replicate m 0)).length = m := by rw [encs_length, List.length_replicate]
  have hr := run_clear_slice (P := P) W t e o.type (.int k 0) ht hz rfl rfl g j m c hm (fun i hi => by rw [cell_of_row W g _ cur e (0, 0) hh]; simp; omega) (fun i _ => blk_frozen hh _)
  have hre : List.replicate m (Value.int k 0) = encs (Value.int k) (List.replicate m 0) := by simp [encs]
  rw [hre] at hr
  obtain ⟨cur', h3, h4, h5⟩ := setCells_row (encs (Value.int k) (List.replicate m 0)) j W cur hh (by rw [hkl]; omega)
  obtain ⟨s1, s2, s3, s4⟩ := setCells_same g (encs (Value.int k) (List.replicate m 0)) j W
  have hln : (lay xs j (List.replicate m 0)).length = xs.length := lay_length (by rw [List.length_replicate]; omega)
  have hrow : (Kd.int k).R e (W.setCells g j (encs (Value.int k) (List.replicate m 0))) base ok (.slice (some ⟨g, 0, none⟩) n cap) (lay xs j (List.replicate m 0)) := by
    refine Kd.R_of_own (enc := Value.int k) (h1 := fun _ => rfl) ?_ HO.1
    rw [hln]
    refine ⟨by rw [encs_length, hln, Nat.mul_one], .inr ⟨g, cap, cur', by rw [hxl], hb, h3, by omega, hcm, by rw [h4, hcs], ?_⟩⟩
    rw [h5, hkl, Nat.mul_one]
    have := lay_cells (ys := List.replicate m 0) (j := j) k (by rw [hcl]; omega) (by rw [← htake, Nat.mul_one]) (by rw [List.length_replicate]; omega)
    rw [List.length_replicate] at this
    exact this
  have hg : W.grownBy (W.setCells g j (encs (Value.int k) (List.replicate m 0))) (some g) := ⟨s1, s2, s3, by rw [s4]; exact Nat.le_refl _, fun k' _ hk => setCells_far _ _ k' (fun he => hk (by rw [he]))⟩
  refine wpList_plain hgd fun K hK => ?_
  unfold Oper.wp execOp
  simp only [ho, resolve, invoke, builtin, Sem.run_bind, Sem.run_pure, Result.andThen_ok, List.map_toArray, List.map_cons, List.map_nil, hx, hr]
  exact hK _ _ (h _ hrow (HB.grown hg hbase (fun k' e => by injection e with e; omega)) hg)
end Go.Proofs.Ytlbfpjhnpnbikaa.X
end
section
namespace Go.Proofs.Ytlbfpjhnpnbikaa.X
set_option linter.unusedVariables false
open Go Go.RowKit
open Go.Proofs.YtlbfpjhnpnbikaaW.PrintWords
def Wel (w : World) (S : Nat → Prop) (c : List Value) (x : Nat × List Int) : Prop := ∃ g o cap, c = [.int .i64 (x.1 : Int), .slice (some ⟨g, o, none⟩) x.2.length cap] ∧ x.2.length ≤ cap ∧ S g ∧ (Kd.int .u8).C w (some ⟨g, o, none⟩) x.2.length x.2
def WRow (w : World) (O S : Nat → Prop) (v : Value) (l : List (Nat × List Int)) : Prop := ∃ cells : List (List Value), (Kd.raw 2).R 66 w 0 O v cells ∧ cells.length = l.length ∧ ∀ (k : Nat) (x : Nat × List Int), l[k]? = some x → ∃ c, cells[k]? = some c ∧ Wel w S c x
theorem Wel.move {w w' : World} {S : Nat → Prop} {c : List Value} {x : Nat × List Int} (h : Wel w S c x) (hm : ∀ k, S k → w'.heap[k]? = w.heap[k]?) : Wel w' S c x := by
  obtain ⟨g, o, cap, h1, h2, h3, h4⟩ := h
  exact ⟨g, o, cap, h1, h2, h3, C_move h4 (hm g h3)⟩
theorem Wel.mono {w : World} {S S' : Nat → Prop} {c : List Value} {x : Nat × List Int} (h : Wel w S c x) (hm : ∀ k, S k → S' k) : Wel w S' c x := by
  obtain ⟨g, o, cap, h1, h2, h3, h4⟩ := h
  exact ⟨g, o, cap, h1, h2, hm g h3, h4⟩
def Res.wrow (v : Value) (l : List (Nat × List Int)) : Res := ⟨fun w O S => WRow w O S v l, fun {w w' O S} h hm _ => by
  obtain ⟨cells, h1, h2, h3⟩ := h
  exact ⟨cells, Kd.R_move h1 (fun k hk => hm k (.inl hk)), h2, fun k x hk => by
    obtain ⟨c, hc, hw⟩ := h3 k x hk
    exact ⟨c, hc, hw.move (fun k hk => hm k (.inr hk))⟩⟩⟩
theorem raw2_at {w : World} {O : Nat → Prop} {g n cap k : Nat} {cells : List (List Value)} {c : List Value} (h : (Kd.raw 2).R 66 w 0 O (.slice (some ⟨g, 0, none⟩) n cap) cells) (hk : cells[k]? = some c) : ∀ (j : Nat) (u : Value), c[j]? = some u → w.cell? ⟨g, k * 2 + j, none⟩ = some u := by
  have hlt : k < cells.length := (List.getElem?_eq_some_iff.1 hk).1
  have hm : n = cells.length := (Kd.R_reads' h).1
  obtain ⟨cs, _, hM, hc, _⟩ := Kd.R_elem h [] (k : Int) (by omega) (by omega)
  rw [Int.toNat_natCast, List.getD_eq_getElem?_getD, hk] at hM
  rw [Int.toNat_natCast, show (Kd.raw 2).sz = 2 from rfl] at hc
  have hcs : cs = c := hM.1
  subst hcs
  exact hc
section
variable {w0 w : World} {L : List Res} {p n : Nat} {s : DS} {v : Value} {l : List (Nat × List Int)}
theorem Lies.wform (h : Lies w0 w L) (i : Nat) (hi : L[i]? = some (.wrow v l)) : ∃ A c, v = .slice A l.length c ∧ l.length ≤ c ∧ (0 < l.length → ∃ g, A = some ⟨g, 0, none⟩) := by
  obtain ⟨O, S, cells, h1, h2, h3⟩ := h.at i hi
  rcases Nat.eq_zero_or_pos l.length with h0 | h0
  · obtain ⟨A, c, e, hc, -⟩ := Kd.R_reads h1
    rw [h2] at e hc
    exact ⟨A, c, e, hc, fun h => absurd h (by omega)⟩
  · obtain ⟨g, c, e, -⟩ := Kd.R_form h1 (by omega)
    rw [e] at h1
    have := (Kd.R_reads' h1).2.1
    rw [h2] at e this
    exact ⟨_, c, e, by have h5 := (Kd.R_reads' h1).1; omega, fun _ => ⟨g, rfl⟩⟩
theorem Lies.wat {g m c : Nat} (h : Lies w0 w L) (i : Nat) (hi : L[i]? = some (.wrow (.slice (some ⟨g, 0, none⟩) m c) l)) {k : Nat} {x : Nat × List Int} (hk : l[k]? = some x) : ∃ g1 o1 c1, w.cell? ⟨g, k * 2, none⟩ = some (.int .i64 (x.1 : Int)) ∧ w.cell? ⟨g, k * 2 + 1, none⟩ = some (.slice (some ⟨g1, o1, none⟩) x.2.length c1) ∧ x.2.length ≤ c1 ∧ (Kd.int .u8).C w (some ⟨g1, o1, none⟩) x.2.length x.2 := by
  obtain ⟨O, S, cells, h1, h2, h3⟩ := h.at i hi
  obtain ⟨cs, hc, g1, o1, c1, rfl, hl, -, hC⟩ := h3 k x hk
  have h4 := raw2_at h1 hc
  exact ⟨g1, o1, c1, h4 0 _ rfl, h4 1 _ rfl, hl, hC⟩
theorem Lies.wnil (h : Lies w0 w L) : Lies w0 w (.wrow (.slice none 0 0) [] :: L) :=
  h.new (O := fun _ => False) (S := fun _ => False) (Below.refl _ _) ⟨[], Kd.R_nil _ _ _ _ _, rfl, fun k x hk => by simp at hk⟩ (fun _ h => h.elim) (fun _ h => h.elim) (fun _ h => h.elim)
theorem Lies.wadd {g m c b : Nat} {xs : List Int} (h : Lies w0 w (.wrow v l :: .row (Kd.int .u8) 5 (.slice (some ⟨g, 0, none⟩) m c) xs :: L)) : m = xs.length ∧ ∃ (cells : List (List Value)) (ok : Nat → Prop), (Kd.raw 2).R 66 w 0 ok v cells ∧ cells.length = l.length ∧ (∀ k, w.heap.size ≤ k → ok k) ∧
    ∀ {v1 : Value} {w1 : World}, (Kd.raw 2).R 66 w1 0 ok v1 (cells ++ [[.int .i64 (b : Int), .slice (some ⟨g, 0, none⟩) m c]]) → w.grownBy w1 v.ownBlock → Lies w0 w1 (.wrow v1 (l ++ [(b, xs)]) :: L) := by
  obtain ⟨O, S, ⟨Of, Sf, g1, g2, g3, g4, g5⟩, h2, h3, h4, h5⟩ := (Lies.close [.wrow v l, .row (Kd.int .u8) 5 (.slice (some ⟨g, 0, none⟩) m c) xs] h).step
  obtain ⟨cells, r1, r2, r3⟩ : WRow w (Of 0) (Sf 0) v l := g1 0 _ rfl
  have hr2 : (Kd.int .u8).R 5 w 0 (Of 1) (.slice (some ⟨g, 0, none⟩) m c) xs := g1 1 _ rfl
  obtain ⟨e1, e2, e3⟩ := Kd.R_reads' hr2
  have hg1 : Of 1 g := hr2.1 g rfl
  refine ⟨e1, cells, fun k => Of 0 k ∨ w.heap.size ≤ k, Kd.R_mono r1 (fun _ h => .inl h), r2, fun _ h => .inr h, ?_⟩
  intro v1 w1 hr hg
  have hbk : ∀ k, k < w.heap.size → ¬ Of 0 k → w1.heap[k]? = w.heap[k]? := fun k hk hn => hg.block k hk (fun e => hn (r1.1 k e.symm))
  refine h5 (R' := .wrow v1 (l ++ [(b, xs)])) (O' := fun k => (Of 0 k ∨ w.heap.size ≤ k) ∧ k < w1.heap.size) (S' := fun k => Sf 0 k ∨ k = g) ((Turn.grown hg).mono (fun k hk => g2 0 k (r1.1 k (Eq.symm hk)))) ?_ (fun k hk => hk.1.imp (g2 0 k) (fun h => ⟨h, hk.2⟩)) ?_ ?_
  · refine ⟨cells ++ [[.int .i64 (b : Int), .slice (some ⟨g, 0, none⟩) m c]], Kd.R_mono (Kd.R_bound hr) (fun k hk => ⟨hk.1, hk.2.2.1⟩), by rw [List.length_append, List.length_append, r2]; rfl, fun k x hk => ?_⟩
    by_cases hlt : k < l.length
    · rw [List.getElem?_append_left hlt] at hk
      obtain ⟨cs, hc, hw⟩ := r3 k x hk
      exact ⟨cs, by rw [List.getElem?_append_left (by omega)]; exact hc, (hw.move (fun k hk => hbk k (h3 k (g3 0 k hk)) (fun ho => g5 0 0 k ho hk))).mono (fun k hk => .inl hk)⟩
    · rw [List.getElem?_append_right (by omega)] at hk
      have hk0 : k - l.length = 0 := by
        rcases Nat.eq_zero_or_pos (k - l.length) with h | h
        · exact h
        · rw [List.getElem?_eq_none (by simp; omega)] at hk
          cases hk
      rw [hk0] at hk
      simp only [List.getElem?_cons_zero, Option.some.injEq] at hk
      subst hk
      refine ⟨_, by rw [List.getElem?_append_right (by omega), show k - cells.length = 0 from by omega]; rfl, g, 0, c, by rw [e1], by rw [← e1]; omega, .inr rfl, ?_⟩
      exact C_move e3 (hbk g (h2 g (g2 1 g hg1)).2 (fun ho => absurd (g4 0 1 g ho hg1) (by omega)))
  · intro k hk
    rcases hk with hk | rfl
    · exact .inl (g3 0 k hk)
    · exact .inr (.inl (g2 1 k hg1))
  · intro k hk hk2
    rcases hk2 with hk2 | rfl
    · rcases hk.1 with h | h
      · exact g5 0 0 k h hk2
      · exact absurd (h3 k (g3 0 k hk2)) (by omega)
    · rcases hk.1 with h | h
      · exact absurd (g4 0 1 k h hg1) (by omega)
      · exact absurd (h2 k (g2 1 k hg1)).2 (by omega)
end
section
variable {w0 w : World} {L : List Res} {p n : Nat} {s : DS} {v : Value} {l : List (Nat × List Int)}
def Res.rdisk (p n : Nat) (s : DS) : Res := .ex fun v : Value × Value × Value => .sep [.box p #[v.1, v.2.1, v.2.2, .bool s.set, .int .i64 (s.left : Int)] 75, .row (Kd.int .u8) 5 v.1 s.bytes, .wrow v.2.1 s.pend, .wrow v.2.2 s.ghosts, .fact (s.Ok n)]
theorem Lies.rdisk (h : Lies w0 w (.rdisk p n s :: L)) : ∃ v0 v1 v2, s.Ok n ∧ Lies w0 w (.box p #[v0, v1, v2, .bool s.set, .int .i64 (s.left : Int)] 75 :: .row (Kd.int .u8) 5 v0 s.bytes :: .wrow v1 s.pend :: .wrow v2 s.ghosts :: L) := by
  obtain ⟨v, h⟩ := h.exi
  have h2 := h.open_
  refine ⟨v.1, v.2.1, v.2.2, h2.facts 4 rfl, ?_⟩
  have h3 : Lies w0 w ([.box p #[v.1, v.2.1, v.2.2, .bool s.set, .int .i64 (s.left : Int)] 75, .row (Kd.int .u8) 5 v.1 s.bytes, .wrow v.2.1 s.pend, .wrow v.2.2 s.ghosts] ++ .fact (s.Ok n) :: L) := h2
  have h4 := (h3.close _).swap.tail
  exact Lies.open_ h4
theorem Lies.mkRdisk {v0 v1 v2 : Value} (hok : s.Ok n) (h : Lies w0 w (.box p #[v0, v1, v2, .bool s.set, .int .i64 (s.left : Int)] 75 :: .row (Kd.int .u8) 5 v0 s.bytes :: .wrow v1 s.pend :: .wrow v2 s.ghosts :: L)) : Lies w0 w (.rdisk p n s :: L) := by
  have h3 : Lies w0 w (.sep [.box p #[v0, v1, v2, .bool s.set, .int .i64 (s.left : Int)] 75, .row (Kd.int .u8) 5 v0 s.bytes, .wrow v1 s.pend, .wrow v2 s.ghosts] :: L) := Lies.close [_, _, _, _] h
  have h4 := Lies.open_ (Lies.swap (h3.andFact hok))
  have h5 : Lies w0 w (.sep [.box p #[v0, v1, v2, .bool s.set, .int .i64 (s.left : Int)] 75, .row (Kd.int .u8) 5 v0 s.bytes, .wrow v1 s.pend, .wrow v2 s.ghosts, .fact (s.Ok n)] :: L) := Lies.close [_, _, _, _, _] h4
  exact Lies.toEx (v0, v1, v2) h5
theorem Lies.rdisk_ok (h : Lies w0 w L) (i : Nat) (hi : L[i]? = some (.rdisk p n s)) : s.Ok n := by
  have h2 := (h.sel [i] (by simp))
  have h3 : Lies w0 w (.rdisk p n s :: []) := by
    have e : [i].map (fun i => L.getD i Res.emp) = [.rdisk p n s] := by simp [List.getD_eq_getElem?_getD, hi]
    rw [e] at h2
    exact h2
  obtain ⟨_, _, _, hok, _⟩ := h3.rdisk
  exact hok
end
end Go.Proofs.Ytlbfpjhnpnbikaa.X
end
section
namespace Go.Proofs.Ytlbfpjhnpnbikaa.X
open Go Go.RowKit
open Go.Proofs.YtlbfpjhnpnbikaaW.PrintLast
section
variable {P : Program} {ops : Array Oper} {Q : Exit → Act → World → Prop} {md : Region.Mode} {S S2 : World → Prop}
theorem last_turn (hi : ∀ w', S2 w' → S w') : ∀ (fuel : Nat) (l : Array Bool) (a : Act) (w : World), S2 w → wpAnyLast P md ops Q S2 [] fuel l a w → wpAnyLast P md ops Q S [] fuel l a w
  | 0, _, _, _, _, h => h
  | fuel + 1, _, _, _, hS, h => ⟨h.1, fun i hr => wpOp_mono (fun a' w' h' => ⟨fun _ _ => hi w' (h'.1 (by simp) hS), last_turn hi fuel _ a' w' (h'.1 (by simp) hS) h'.2⟩) (h.2 i hr)⟩
theorem more_ {fuel : Nat} {l : Array Bool} {a : Act} {w : World} (S2 : World → Prop) (hS : S2 w) (hi : ∀ w', S2 w' → S w') (h : S2 w → wpAnyLast P md ops Q S2 [] fuel l a w) : wpAnyLast P md ops Q S [] fuel l a w := last_turn hi fuel l a w hS (h hS)
end
end Go.Proofs.Ytlbfpjhnpnbikaa.X
end
