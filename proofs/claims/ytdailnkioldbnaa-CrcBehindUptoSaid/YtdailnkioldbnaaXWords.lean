/- Words of ours that the seat's texts share: a block of cells as a whole; a complement of a word. -/
import Derived.Test.YtdailnkioldbnaaWMore
import Derived.OneCell
import Derived.Lib.SlBytesConst
import Derived.Lib.SmallJoins
import Derived.Laws.Rows
namespace Go.Proofs.Ytdailnkioldbnaa.X
open Go Go.RowKit

/-- A block of cells that may be written. -/
def Blk (w : World) (g : Nat) (cs : Array Value) (t : TypeId) : Prop := w.heap[g]? = some (.cells cs t (0, 0))
theorem Blk.lt {w : World} {g : Nat} {cs : Array Value} {t : TypeId} (h : Blk w g cs t) : g < w.heap.size := lt_of_block h
theorem Blk.cell {w : World} {g : Nat} {cs : Array Value} {t : TypeId} (h : Blk w g cs t) (i : Nat) (v : Value) (hi : cs[i]? = some v) : w.cell? ⟨g, i, none⟩ = some v := by
  have h' : w.heap[g]? = some (.cells cs t (0, 0)) := h
  simp [World.cell?, h', hi]
theorem Blk.free {w : World} {g : Nat} {cs : Array Value} {t : TypeId} (h : Blk w g cs t) (i : Nat) : w.frozen? ⟨g, i, none⟩ = false := by
  have h' : w.heap[g]? = some (.cells cs t (0, 0)) := h
  simp [World.frozen?, h']
theorem Blk.set {w : World} {g : Nat} {cs : Array Value} {t : TypeId} (h : Blk w g cs t) (i : Nat) (u : Value) : Blk (w.setCell ⟨g, i, none⟩ u) g (cs.setIfInBounds i u) t := by
  have hlt := h.lt
  have h' : w.heap[g] = .cells cs t (0, 0) := by
    have h2 : w.heap[g]? = some (.cells cs t (0, 0)) := h
    simpa [Array.getElem?_eq_getElem hlt] using h2
  show (w.heap.modify g _)[g]? = _
  rw [Array.getElem?_eq_getElem (by simpa using hlt), Array.getElem_modify_self, h']
  rfl
theorem Blk.drew {w : World} {g : Nat} {cs : Array Value} {t : TypeId} (h : Blk w g cs t) : Blk w.drew g cs t := h
theorem Blk.below {w w' : World} {g : Nat} {cs : Array Value} {t : TypeId} (h : Blk w g cs t) {B : Nat} (hb : Below B w w') (hg : g < B) : Blk w' g cs t := by
  have h' : w.heap[g]? = some (.cells cs t (0, 0)) := h
  show w'.heap[g]? = _
  rw [hb.block g hg, h']
theorem Blk.new (w : World) (cs : Array Value) (t : TypeId) : Blk (w.alloc (.cells cs t (0, 0))) w.heap.size cs t := by
  show (w.heap.push _)[w.heap.size]? = _
  simp

open Go.Proofs.YtdailnkioldbnaaW.PrintWords in
/-- A row that a block holds from its head on, as it is read. -/
theorem C_blk {w : World} {g : Nat} {cs : Array Value} {t : TypeId} {fr : Nat × Nat} {k : IntKind} {xs : List Int} (h : w.heap[g]? = some (.cells cs t fr)) (hx : cs.toList = xs.map (Value.int k)) (hm : xs.length ≤ 9223372036854775807) :
    (Kd.int k).C w (some ⟨g, 0, none⟩) xs.length xs := by
  refine ⟨rfl, hm, fun _ => ⟨_, rfl, fun j p hp => ⟨[.int k p], rfl, rfl, fun i u hu => ?_⟩⟩⟩
  have hi : i = 0 := by
    rcases i with _ | i
    · rfl
    · simp at hu
  subst hi
  simp only [List.getElem?_cons_zero, Option.some.injEq] at hu
  subst hu
  have hc : cs[j]? = some (.int k p) := by
    rw [← Array.getElem?_toList, hx, List.getElem?_map, hp]
    rfl
  rw [add_plain]
  show w.cell? ⟨g, j * 1 + 0, none⟩ = _
  rw [show j * 1 + 0 = j from by omega]
  simp [World.cell?, h, hc]
open Go.Proofs.YtdailnkioldbnaaW.PrintWords in
theorem C_new {w : World} {cs : Array Value} {t : TypeId} {fr : Nat × Nat} {k : IntKind} {xs : List Int} (hx : cs.toList = xs.map (Value.int k)) (hm : xs.length ≤ 9223372036854775807) :
    (Kd.int k).C (w.alloc (.cells cs t fr)) (some ⟨w.heap.size, 0, none⟩) xs.length xs := by
  refine C_blk (cs := cs) (t := t) (fr := fr) ?_ hx hm
  show (w.heap.push _)[w.heap.size]? = _
  simp

/-- '^x' of a word. -/
theorem unary_not_u32 (n : Int) : Op.unary .xor (.int .u32 n) = pure (.int .u32 (Go.bits .xor .u32 4294967295 n)) := rfl
theorem unary_not_u8 (n : Int) : Op.unary .xor (.int .u8 n) = pure (.int .u8 (Go.bits .xor .u8 255 n)) := rfl
end Go.Proofs.Ytdailnkioldbnaa.X
