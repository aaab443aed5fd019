/- Words of ours that the seat's texts share: a block of cells as a whole; a complement of a word. -/
import Derived.Test.YtiaefbngegmpaaaWMore
import Derived.OneCell
import Derived.Lib.SlBytesConst
import Derived.Lib.SmallJoins
import Derived.Laws.Rows
import Derived.ArgAppend
namespace Go.Proofs.Ytiaefbngegmpaaa.X
open Go Go.RowKit

/-- A block of cells that may be written. -/
def Blk (w : World) (g : Nat) (cs : Array Value) (t : TypeId) : Prop := w.heap[g]? = some (.cells cs t (0, 0))
theorem Blk.lt {w : World} {g : Nat} {cs : Array Value} {t : TypeId} (h : Blk w g cs t) : g < w.heap.size := lt_of_block h
theorem Blk.cell {w : World} {g : Nat} {cs : Array Value} {t : TypeId} (h : Blk w g cs t) (i : Nat) (v : Value) (hi : cs[i]? = some v) : w.cell? ⟨g, i, none⟩ = some v := by
  have h' : w.heap[g]? = some (.cells cs t (0, 0)) := h
  simp [World.cell?, h', hi]
theorem Blk.free {w : World} {g : Nat} {cs : Array Value} {t : TypeId} (h : Blk w g cs t) (i : Nat) : w.frozen? ⟨g, i, none⟩ = false := by
  have h' : w.heap[g]? = some (.cells cs t (0, 0)) := h
  simp [World.frozen?, h']
theorem Blk.set {w : World} {g : Nat} {cs : Array Value} {t : TypeId} (h : Blk w g cs t) (i : Nat) (u : Value) : Blk (w.setCell ⟨g, i, none⟩ u) g (cs.setIfInBounds i u) t := by
  have hlt := h.lt
  have h' : w.heap[g] = .cells cs t (0, 0) := by
    have h2 : w.heap[g]? = some (.cells cs t (0, 0)) := h
    simpa [Array.getElem?_eq_getElem hlt] using h2
  show (w.heap.modify g _)[g]? = _
  rw [Array.getElem?_eq_getElem (by simpa using hlt), Array.getElem_modify_self, h']
  rfl
theorem Blk.drew {w : World} {g : Nat} {cs : Array Value} {t : TypeId} (h : Blk w g cs t) : Blk w.drew g cs t := h
theorem Blk.below {w w' : World} {g : Nat} {cs : Array Value} {t : TypeId} (h : Blk w g cs t) {B : Nat} (hb : Below B w w') (hg : g < B) : Blk w' g cs t := by
  have h' : w.heap[g]? = some (.cells cs t (0, 0)) := h
  show w'.heap[g]? = _
  rw [hb.block g hg, h']
theorem Blk.new (w : World) (cs : Array Value) (t : TypeId) : Blk (w.alloc (.cells cs t (0, 0))) w.heap.size cs t := by
  show (w.heap.push _)[w.heap.size]? = _
  simp

open Go.Proofs.YtiaefbngegmpaaaW.PrintWords in
/-- A row that a block holds from its head on, as it is read. -/
theorem C_blk {w : World} {g : Nat} {cs : Array Value} {t : TypeId} {fr : Nat × Nat} {k : IntKind} {xs : List Int} (h : w.heap[g]? = some (.cells cs t fr)) (hx : cs.toList = xs.map (Value.int k)) (hm : xs.length ≤ 9223372036854775807) :
    (Kd.int k).C w (some ⟨g, 0, none⟩) xs.length xs := by
  refine ⟨rfl, hm, fun _ => ⟨_, rfl, fun j p hp => ⟨[.int k p], rfl, rfl, fun i u hu => ?_⟩⟩⟩
  have hi : i = 0 := by
    rcases i with _ | i
    · rfl
    · simp at hu
  subst hi
  simp only [List.getElem?_cons_zero, Option.some.injEq] at hu
  subst hu
  have hc : cs[j]? = some (.int k p) := by
    rw [← Array.getElem?_toList, hx, List.getElem?_map, hp]
    rfl
  rw [add_plain]
  show w.cell? ⟨g, j * 1 + 0, none⟩ = _
  rw [show j * 1 + 0 = j from by omega]
  simp [World.cell?, h, hc]
open Go.Proofs.YtiaefbngegmpaaaW.PrintWords in
theorem C_new {w : World} {cs : Array Value} {t : TypeId} {fr : Nat × Nat} {k : IntKind} {xs : List Int} (hx : cs.toList = xs.map (Value.int k)) (hm : xs.length ≤ 9223372036854775807) :
    (Kd.int k).C (w.alloc (.cells cs t fr)) (some ⟨w.heap.size, 0, none⟩) xs.length xs := by
  refine C_blk (cs := cs) (t := t) (fr := fr) ?_ hx hm
  show (w.heap.push _)[w.heap.size]? = _
  simp

open Go.Proofs.YtiaefbngegmpaaaW.PrintWords in
/-- The cells that a row of numbers is read from. -/
theorem C_cells {w : World} {ad : Addr} {n : Nat} {k : IntKind} {xs : List Int} (h : (Kd.int k).C w (some ad) n xs) : ∀ j u, (xs.map (Value.int k))[j]? = some u → w.cell? (ad.add j) = some u := by
  intro j u hu
  rw [List.getElem?_map] at hu
  obtain ⟨p, hp, rfl⟩ := Option.map_eq_some_iff.1 hu
  have hj := (List.getElem?_eq_some_iff.1 hp).1
  obtain ⟨ad', e, hc⟩ := Kd.at_int h (j : Int) (by omega) (by have := h.1; omega)
  cases e
  rw [Int.toNat_natCast] at hc
  rw [hc]
  unfold rd
  rw [Int.toNat_natCast, List.getD_eq_getElem?_getD, hp]
  rfl
open Go.Proofs.YtiaefbngegmpaaaW.PrintWords in
/-- 'append(xs, ys...)' where xs is read only and has no room: a new row. -/
theorem append_grown {P : Program} {w0 W : World} {ops : Array Oper} {rest : List Oper} {o : Oper} {a : Act} {Q : Exit → Act → World → Prop} (k : IntKind) (base : Nat) (hgd : o.guard = none) (s x : Operand) (t e : TypeId) (z : Value) (bytes : Nat)
    (ho : o.op = .call { callee := .builtin .append, args := #[s, x], argTypes := #[t, t] })
    (ht : P.underlying t = some (.slice e)) (hinfo : (P.info? e).map (fun i => (i.zero, i.size, i.bytes)) = some (some z, 1, bytes)) (hz : z.cells.size = 1)
    (xs ys : List Int) (ad ad' : Addr) (n c m c' : Nat) (hs : a.eval s = .slice (some ad) n c) (hx : a.eval x = .slice (some ad') m c') (HS : (Kd.int k).C W (some ad) n xs) (HX : (Kd.int k).C W (some ad') m ys)
    (hfull : c < n + m) (HB : Below base w0 W) (hbase : base ≤ W.heap.size) (hl : (n + m) * bytes ≤ 140737488355328) (b1 : n + m ≤ maxLen)
    (h : ∀ v1 w1, (Kd.int k).R e w1 base (fun _ => True) v1 (xs ++ ys) → Below base w0 w1 → W.grownBy w1 none → wpList P ops Q rest (a.put o.dst v1) w1) :
    wpList P ops Q (o :: rest) a W := by
  obtain ⟨i0, hi, hz0, hz1, hz2⟩ := info_parts hinfo
  have e1 := HS.1
  have e2 := HX.1
  refine wpList_append_grows W hgd s x t ho e i0 z 1 bytes ht hi hz0 hz1 hz2 hz (by decide) (some ad) n c (xs.map (Value.int k)) hs (fun h => by cases h) (by simp [e1]) (fun b hb => by cases hb; exact C_cells HS) ad' m c' (ys.map (Value.int k)) hx (by simp [e2]) (C_cells HX) (fun u hu => by obtain ⟨p, _, rfl⟩ := List.mem_map.1 hu; rfl) hfull b1 hl ?_
  intro v' w' hown hg
  refine h v' w' ?_ (HB.grown hg hbase (fun k e => by cases e)) hg
  have hlen : n + m = (xs ++ ys).length := by rw [List.length_append]; omega
  rw [hlen, ← List.map_append] at hown
  exact Kd.R_lower (Kd.R_of_own (enc := Value.int k) (h1 := fun _ => rfl) hown (fun _ _ => trivial)) hbase

/-- '^x' of a word. -/
theorem unary_not_u32 (n : Int) : Op.unary .xor (.int .u32 n) = pure (.int .u32 (Go.bits .xor .u32 4294967295 n)) := rfl
theorem unary_not_u8 (n : Int) : Op.unary .xor (.int .u8 n) = pure (.int .u8 (Go.bits .xor .u8 255 n)) := rfl
end Go.Proofs.Ytiaefbngegmpaaa.X
