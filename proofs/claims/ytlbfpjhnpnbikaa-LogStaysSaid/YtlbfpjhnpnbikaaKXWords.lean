/- XWords: what this claim uses. Laid by slim.py (ours). -/
import Derived.Test.YtlbfpjhnpnbikaaKWMore
import Derived.OneCell
import Derived.Lib.SlBytesConst
import Derived.Lib.SliceRun
import Derived.StillTailTactics
import Derived.Lib.SmallJoins
import Derived.Laws.Rows
import Derived.ArgAppend
namespace Go.Proofs.Ytlbfpjhnpnbikaa.X
open Go Go.RowKit
def Blk (w : World) (g : Nat) (cs : Array Value) (t : TypeId) : Prop := w.heap[g]? = some (.cells cs t (0, 0))
theorem Blk.lt {w : World} {g : Nat} {cs : Array Value} {t : TypeId} (h : Blk w g cs t) : g < w.heap.size := lt_of_block h
theorem Blk.cell {w : World} {g : Nat} {cs : Array Value} {t : TypeId} (h : Blk w g cs t) (i : Nat) (v : Value) (hi : cs[i]? = some v) : w.cell? ⟨g, i, none⟩ = some v := by
  have h' : w.heap[g]? = some (.cells cs t (0, 0)) := h
  simp [World.cell?, h', hi]
theorem Blk.free {w : World} {g : Nat} {cs : Array Value} {t : TypeId} (h : Blk w g cs t) (i : Nat) : w.frozen? ⟨g, i, none⟩ = false := by
  have h' : w.heap[g]? = some (.cells cs t (0, 0)) := h
  simp [World.frozen?, h']
theorem Blk.set {w : World} {g : Nat} {cs : Array Value} {t : TypeId} (h : Blk w g cs t) (i : Nat) (u : Value) : Blk (w.setCell ⟨g, i, none⟩ u) g (cs.setIfInBounds i u) t := by
  have hlt := h.lt
  have h' : w.heap[g] = .cells cs t (0, 0) := by
    have h2 : w.heap[g]? = some (.cells cs t (0, 0)) := h
    simpa [Array.getElem?_eq_getElem hlt] using h2
  show (w.heap.modify g _)[g]? = _
  rw [Array.getElem?_eq_getElem (by simpa using hlt), Array.getElem_modify_self, h']
  rfl
theorem Blk.drew {w : World} {g : Nat} {cs : Array Value} {t : TypeId} (h : Blk w g cs t) : Blk w.drew g cs t := h
theorem Blk.below {w w' : World} {g : Nat} {cs : Array Value} {t : TypeId} (h : Blk w g cs t) {B : Nat} (hb : Below B w w') (hg : g < B) : Blk w' g cs t := by
  have h' : w.heap[g]? = some (.cells cs t (0, 0)) := h
  show w'.heap[g]? = _
  rw [hb.block g hg, h']
theorem Blk.new (w : World) (cs : Array Value) (t : TypeId) : Blk (w.alloc (.cells cs t (0, 0))) w.heap.size cs t := by
  show (w.heap.push _)[w.heap.size]? = _
  simp
open Go.Proofs.YtlbfpjhnpnbikaaW.PrintWords in
theorem C_blk {w : World} {g : Nat} {cs : Array Value} {t : TypeId} {fr : Nat × Nat} {k : IntKind} {xs : List Int} (h : w.heap[g]? = some (.cells cs t fr)) (hx : cs.toList = xs.map (Value.int k)) (hm : xs.length ≤ 9223372036854775807) :
    (Kd.int k).C w (some ⟨g, 0, none⟩) xs.length xs := by
  refine ⟨rfl, hm, fun _ => ⟨_, rfl, fun j p hp => ⟨[.int k p], rfl, rfl, fun i u hu => ?_⟩⟩⟩
  have hi : i = 0 := by
    rcases i with _ | i
    · rfl
    · simp at hu
  subst hi
  simp only [List.getElem?_cons_zero, Option.some.injEq] at hu
  subst hu
  have hc : cs[j]? = some (.int k p) := by
    rw [← Array.getElem?_toList, hx, List.getElem?_map, hp]
    rfl
  rw [add_plain]
  show w.cell? ⟨g, j * 1 + 0, none⟩ = _
  rw [show j * 1 + 0 = j from by omega]
  simp [World.cell?, h, hc]
open Go.Proofs.YtlbfpjhnpnbikaaW.PrintWords in
theorem C_new {w : World} {cs : Array Value} {t : TypeId} {fr : Nat × Nat} {k : IntKind} {xs : List Int} (hx : cs.toList = xs.map (Value.int k)) (hm : xs.length ≤ 9223372036854775807) :
    (Kd.int k).C (w.alloc (.cells cs t fr)) (some ⟨w.heap.size, 0, none⟩) xs.length xs := by
  refine C_blk (cs := cs) (t := t) (fr := fr) ?_ hx hm
  show (w.heap.push _)[w.heap.size]? = _
  simp
open Go.Proofs.YtlbfpjhnpnbikaaW.PrintWords in
theorem C_cells {w : World} {ad : Addr} {n : Nat} {k : IntKind} {xs : List Int} (h : (Kd.int k).C w (some ad) n xs) : ∀ j u, (xs.map (Value.int k))[j]? = some u → w.cell? (ad.add j) = some u := by
  intro j u hu
  rw [List.getElem?_map] at hu
  obtain ⟨p, hp, rfl⟩ := Option.map_eq_some_iff.1 hu
  have hj := (List.getElem?_eq_some_iff.1 hp).1
  obtain ⟨ad', e, hc⟩ := Kd.at_int h (j : Int) (by omega) (by have := h.1; omega)
  cases e
  rw [Int.toNat_natCast] at hc
  rw [hc]
  unfold rd
  rw [Int.toNat_natCast, List.getD_eq_getElem?_getD, hp]
  rfl
open Go.Proofs.YtlbfpjhnpnbikaaW.PrintWords in
theorem append_grown {P : Program} {w0 W : World} {ops : Array Oper} {rest : List Oper} {o : Oper} {a : Act} {Q : Exit → Act → World → Prop} (k : IntKind) (base : Nat) (hgd : o.guard = none) (s x : Operand) (t e : TypeId) (z : Value) (bytes : Nat)
    (ho : o.op = .call { callee := .builtin .append, args := #[s, x], argTypes := #[t, t] })
    (ht : P.underlying t = some (.slice e)) (hinfo : (P.info? e).map (fun i => (i.zero, i.size, i.bytes)) = some (some z, 1, bytes)) (hz : z.cells.size = 1)
    (xs ys : List Int) (ad ad' : Addr) (n c m c' : Nat) (hs : a.eval s = .slice (some ad) n c) (hx : a.eval x = .slice (some ad') m c') (HS : (Kd.int k).C W (some ad) n xs) (HX : (Kd.int k).C W (some ad') m ys)
    (hfull : c < n + m) (HB : Below base w0 W) (hbase : base ≤ W.heap.size) (hl : (n + m) * bytes ≤ 140737488355328) (b1 : n + m ≤ maxLen)
    (h : ∀ v1 w1, (Kd.int k).R e w1 base (fun _ => True) v1 (xs ++ ys) → Below base w0 w1 → W.grownBy w1 none → wpList P ops Q rest (a.put o.dst v1) w1) :
    wpList P ops Q (o :: rest) a W := by
  obtain ⟨i0, hi, hz0, hz1, hz2⟩ := info_parts hinfo
  have e1 := HS.1
  have e2 := HX.1
  refine wpList_append_grows W hgd s x t ho e i0 z 1 bytes ht hi hz0 hz1 hz2 hz (by decide) (some ad) n c (xs.map (Value.int k)) hs (fun h => by cases h) (by simp [e1]) (fun b hb => by cases hb; exact C_cells HS) ad' m c' (ys.map (Value.int k)) hx (by simp [e2]) (C_cells HX) (fun u hu => by obtain ⟨p, _, rfl⟩ := List.mem_map.1 hu; rfl) hfull b1 hl ?_
  intro v' w' hown hg
  refine h v' w' ?_ (HB.grown hg hbase (fun k e => by cases e)) hg
  have hlen : n + m = (xs ++ ys).length := by rw [List.length_append]; omega
  rw [hlen, ← List.map_append] at hown
  exact Kd.R_lower (Kd.R_of_own (enc := Value.int k) (h1 := fun _ => rfl) hown (fun _ _ => trivial)) hbase
def lay (xs : List Int) (j : Nat) (ys : List Int) : List Int := xs.take j ++ (ys ++ xs.drop (j + ys.length))
theorem lay_length {xs ys : List Int} {j : Nat} (h : j + ys.length ≤ xs.length) : (lay xs j ys).length = xs.length := by
  simp [lay]
  omega
open Go.Proofs.YtlbfpjhnpnbikaaW.PrintWords in
theorem copy_run {P : Program} {w0 W : World} (k : IntKind) (base : Nat) (t t' ty e : TypeId) (ht : P.underlying t = some (.slice e)) (hinfo : (P.info? e).map (·.size) = some 1)
    (g n cap j dl dc : Nat) (A : Option Addr) (m c : Nat) (xs ys : List Int) (ok : Nat → Prop)
    (HO : (Kd.int k).R e W base ok (.slice (some ⟨g, 0, none⟩) n cap) xs) (HR : (Kd.int k).C W A m ys) (hfit : m ≤ dl) (hj : j + m ≤ n) (HB : Below base w0 W) (hbase : base ≤ W.heap.size) :
    ∃ w1, (Builtin.copy_ #[t, t'] ty #[.slice (some ⟨g, j, none⟩) dl dc, .slice A m c]).run P W = .ok (goInt (m : Int)) w1 ∧ (Kd.int k).R e w1 base ok (.slice (some ⟨g, 0, none⟩) n cap) (lay xs j ys) ∧ Below base w0 w1 ∧ W.grownBy w1 (some g) := by
  have hR := Kd.reads_of_C (enc := Value.int k) (d := (0 : Int)) (h1 := fun _ => rfl) HR
  have hm : ys.length = m := hR.1
  have hxl : n = xs.length := (Kd.R_reads' HO).1
  have hown := Kd.own_of_R (enc := Value.int k) (h1 := fun _ => rfl) HO
  have fin : ∀ w1, (Builtin.copy_ #[t, t'] ty #[.slice (some ⟨g, j, none⟩) dl dc, .slice A m c]).run P W = .ok (goInt (m : Int)) w1 → (Kd.int k).R e w1 base ok (.slice (some ⟨g, 0, none⟩) n cap) (lay xs j ys) → W.grownBy w1 (some g) → ∃ w1, (Builtin.copy_ #[t, t'] ty #[.slice (some ⟨g, j, none⟩) dl dc, .slice A m c]).run P W = .ok (goInt (m : Int)) w1 ∧ (Kd.int k).R e w1 base ok (.slice (some ⟨g, 0, none⟩) n cap) (lay xs j ys) ∧ Below base w0 w1 ∧ W.grownBy w1 (some g) := by
    intro w1 hr hrow hg
    exact ⟨w1, hr, hrow, HB.grown hg hbase (fun k' e => by
      injection e with e
      subst e
      exact own_base hown _ (by simp [Value.ownBlock])), hg⟩
  rcases Nat.eq_zero_or_pos m with h0 | hp
  · subst h0
    have hy : ys = [] := List.eq_nil_of_length_eq_zero hm
    subst hy
    refine fin W ?_ (by simpa [lay] using HO) (World.grownBy.refl W _)
    have := run_copy_none (P := P) W t t' ty e (some ⟨g, j, none⟩) A dl dc 0 c ht hinfo (by simp)
    exact this
  · obtain ⟨ad, hA, hc⟩ := hR.2.2 hp
    rcases hown.2 with ⟨hv, _⟩ | ⟨g', cap', cur, hv, hb, hh, hnc, hcm, hcs, htake⟩
    · cases hv
    injection hv with hv1 hv2 hv3
    injection hv1 with hv1
    injection hv1 with hv1
    subst hv1
    subst hv3
    have hcs1 : cur.size = cap := by omega
    have hsrc : ∀ i u, (encs (Value.int k) ys)[i]? = some u → W.cell? (ad.add i) = some u := by
      intro i u hu
      have hi : i < ys.length := by
        rcases Nat.lt_or_ge i ys.length with h | h
        · exact h
        · rw [List.getElem?_eq_none (by rw [encs_length]; exact h)] at hu
          cases hu
      rw [encs_get (d := (0 : Int)) _ i hi] at hu
      rw [hc i (by omega), ← hu]
    have hkl : (encs (Value.int k) ys).length = m := by rw [encs_length]; exact hm
    have hr := run_copy_cells (P := P) W t t' ty e g j dl dc ad m c (encs (Value.int k) ys) ht hinfo (by rw [hkl]; exact (Nat.min_eq_left hfit).symm) hsrc
      (fun i hi => by rw [cell_of_row W g _ cur e (0, 0) hh]; simp; omega) (fun i _ => blk_frozen hh _) (by intro u hu; simp only [encs, List.mem_map] at hu; obtain ⟨q, _, rfl⟩ := hu; rfl)
    obtain ⟨cur', h3, h4, h5⟩ := setCells_row (encs (Value.int k) ys) j W cur hh (by rw [hkl]; omega)
    obtain ⟨s1, s2, s3, s4⟩ := setCells_same g (encs (Value.int k) ys) j W
    refine fin _ (by rw [hA, hr, hkl]) (Kd.R_of_own (enc := Value.int k) (h1 := fun _ => rfl) ?_ HO.1) ⟨s1, s2, s3, by rw [s4]; exact Nat.le_refl _, fun k' _ hk => setCells_far _ _ k' (fun he => hk (by rw [he]))⟩
    have hln : (lay xs j ys).length = xs.length := lay_length (by omega)
    rw [hln]
    refine ⟨by rw [encs_length, hln, Nat.mul_one], .inr ⟨g, cap, cur', by rw [hxl], hb, h3, by omega, hcm, by rw [h4, hcs], ?_⟩⟩
    have htk : cur.toList.take xs.length = encs (Value.int k) xs := by rw [← htake, Nat.mul_one]
    rw [h5, hkl, Nat.mul_one]
    apply List.ext_getElem?
    intro i
    have hat : ∀ i, i < xs.length → cur.toList[i]? = (encs (Value.int k) xs)[i]? := by
      intro i hi
      rw [← htk, List.getElem?_take, if_pos hi]
    have hcl : cur.toList.length = cap := by rw [Array.length_toList]; exact hcs1
    rw [List.getElem?_take]
    by_cases hi : i < xs.length
    · rw [if_pos hi]
      unfold lay
      rw [encs_append, encs_append, List.append_assoc]
      simp only [encs, List.map_take, List.map_drop]
      rw [List.getElem?_append (l₁ := List.take j cur.toList), List.getElem?_append (l₁ := List.take j (xs.map (Value.int k))), List.length_take, List.length_take, hcl, List.length_map]
      by_cases h1 : i < j
      · rw [if_pos (by omega), if_pos (by omega), List.getElem?_take, List.getElem?_take, if_pos h1, if_pos h1]
        exact hat i hi
      · rw [if_neg (by omega), if_neg (by omega), show min j cap = min j xs.length from by omega, List.getElem?_append (l₁ := ys.map (Value.int k)), List.getElem?_append (l₁ := ys.map (Value.int k))]
        by_cases h2 : i - min j xs.length < (ys.map (Value.int k)).length
        · rw [if_pos h2, if_pos h2]
        · rw [if_neg h2, if_neg h2, List.getElem?_drop, List.getElem?_drop, List.length_map, hm]
          rw [List.length_map] at h2
          have hx := hat (j + m + (i - min j xs.length - m)) (by omega)
          simpa [encs] using hx
    · rw [if_neg hi, List.getElem?_eq_none (by rw [encs_length, hln]; omega)]
open Go.Proofs.YtlbfpjhnpnbikaaW.PrintWords in
theorem copy_step {P : Program} {w0 W : World} {ops : Array Oper} {o : Oper} {a : Act} {Q : Exit → Act → World → Prop} {Kc : Act → World → Prop} {N : Option Tmp} (k : IntKind) (base : Nat) (hw : Region.wanted o (yielded ops a.tmps) = true) (hN : o.dst = N) (s x : Operand) (t t' e : TypeId)
    (ho : o.op = .call { callee := .builtin .copy, args := #[s, x], argTypes := #[t, t'] }) (ht : P.underlying t = some (.slice e)) (hinfo : (P.info? e).map (·.size) = some 1)
    (g n cap j dl dc : Nat) (A : Option Addr) (m c : Nat) (xs ys : List Int) (ok : Nat → Prop) (hs : a.eval s = .slice (some ⟨g, j, none⟩) dl dc) (hx : a.eval x = .slice A m c)
    (HO : (Kd.int k).R e W base ok (.slice (some ⟨g, 0, none⟩) n cap) xs) (HR : (Kd.int k).C W A m ys) (hfit : m ≤ dl) (hj : j + m ≤ n) (HB : Below base w0 W) (hbase : base ≤ W.heap.size)
    (h : ∀ w1, (Kd.int k).R e w1 base ok (.slice (some ⟨g, 0, none⟩) n cap) (lay xs j ys) → Below base w0 w1 → W.grownBy w1 (some g) → Kc (a.put N (.int .i64 (m : Int))) w1) :
    if Region.wanted o (yielded ops a.tmps) = true then Oper.wp P o a W Kc Q else Kc (a.put N undef) W := by
  obtain ⟨w1, hr, h1, h2, h3⟩ := copy_run (P := P) k base t t' o.type e ht hinfo g n cap j dl dc A m c xs ys ok HO HR hfit hj HB hbase
  rw [if_pos hw]
  subst hN
  unfold Oper.wp execOp
  simp only [ho, resolve, invoke, builtin, Sem.run_bind, Sem.run_pure, Result.andThen_ok, List.map_toArray, List.map_cons, List.map_nil, hs, hx, hr]
  exact h w1 h1 h2 h3
theorem unary_not_u32 (n : Int) : Op.unary .xor (.int .u32 n) = pure (.int .u32 (Go.bits .xor .u32 4294967295 n)) := rfl
end Go.Proofs.Ytlbfpjhnpnbikaa.X
