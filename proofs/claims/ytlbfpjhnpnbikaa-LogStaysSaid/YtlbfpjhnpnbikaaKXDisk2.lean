/- XDisk2: what this claim uses. Laid by slim.py (ours). -/
import Derived.Test.YtlbfpjhnpnbikaaProg
import Derived.Test.YtlbfpjhnpnbikaaKXDisk
import Derived.Test.YtlbfpjhnpnbikaaKXCrc2
import Derived.Test.YtlbfpjhnpnbikaaKWArr
import Derived.Deep.MidRow
import Derived.IntWalk
namespace Go.Proofs.Ytlbfpjhnpnbikaa.X
set_option linter.unusedVariables false
open Go Go.RowKit
open Go.Proofs.YtlbfpjhnpnbikaaW.PrintWords
theorem store_box {P : Program} {W : World} {ops : Array Oper} {rest : List Oper} {o : Oper} {a : Act} {Q : Exit → Act → World → Prop} (hgd : o.guard = none) (t : TypeId) (x y : Operand) (ho : o.op = .store t x y) (g : Nat) (cs cells : Array Value)
    (hx : a.eval x = .pointer (some ⟨g, 0, none⟩)) (hy : a.eval y = .agg cells) (hb : Blk W g cs t) (hsz : cs.size = cells.size) (hi : (P.info? t).map (·.size) = some cells.size) (h1 : cells.all (·.oneCell') = true)
    (h : ∀ w1, Blk w1 g cells t → Turn (fun k => k = g) W w1 → wpList P ops Q rest (a.put o.dst undef) w1) : wpList P ops Q (o :: rest) a W := by
  refine wpList_plain hgd fun K hK => ?_
  have hr := run_storeVar_row (P := P) W g t t cs cells hb hi hsz h1
  unfold Oper.wp execOp
  simp only [ho, hx, hy, Instr.storeAt, Instr.sureAddr, Sem.run_bind, Sem.run_pure, Result.andThen_ok, hr]
  exact hK _ _ (h _ (setRow_heap W g cs cells t (0, 0) hb) ⟨rfl, rfl, rfl, by simp [World.setRow], fun k _ hk => setRow_other W g k cells hk⟩)
theorem val_ {P : Program} {ops : Array Oper} {oi : Oper} {N : Option Tmp} {a : Act} {w w1 : World} {v : Value} {K : Act → World → Prop} {Q : Exit → Act → World → Prop} (hw : Region.wanted oi (yielded ops a.tmps) = true) (hN : oi.dst = N) (hrun : (execOp a.eval oi).run P w = .ok (.value v) w1)
    (h : K (a.put N v) w1) : if Region.wanted oi (yielded ops a.tmps) = true then Oper.wp P oi a w K Q else K (a.put N undef) w := by
  rw [if_pos hw]
  subst hN
  unfold Oper.wp
  rw [hrun]
  exact h
theorem load_exec {P : Program} {w : World} {oi : Oper} {ρ : Operand → Value} (ty : TypeId) (x : Operand) (ho : oi.op = .load ty x) (b o : Nat) (hx : ρ x = .pointer (some ⟨b, o, none⟩)) (cs : List Value) (d : TypeDesc) (hc : w.rangeAt b o cs)
    (hu : P.underlying ty = some d) (hd : d.isRow = true) (hi : (P.info? ty).map (·.size) = some cs.length) : (execOp ρ oi).run P w = .ok (.value (.agg cs.toArray)) w := by
  unfold execOp
  simp only [ho, hx, Instr.loadAt, Instr.sureAddr, Sem.run_bind, Sem.run_pure, Result.andThen_ok, run_loadVar_mid w b o ty cs d hc hu hd hi]
structure DS where
  bytes : List Int
  pend : List (Nat × List Int)
  ghosts : List (Nat × List Int)
  set : Bool
  left : Nat
def DS.write (s : DS) (i : Nat) (xs : List Int) : DS := if (s.set && decide (s.left = 0)) = true then { s with ghosts := s.ghosts ++ [(i, xs)] } else { s with pend := s.pend ++ [(i, xs)], left := if s.set = true then s.left - 1 else s.left }
def laysTo (b : List Int) (l : List (Nat × List Int)) : List Int := l.foldl (fun b x => lay b (256 * x.1) x.2) b
def DS.flush (s : DS) : DS := if (s.set && decide (s.left = 0)) = true then s else ⟨laysTo s.bytes s.pend, [], s.ghosts, s.set, if s.set = true then s.left - 1 else s.left⟩
def DS.blown (s : DS) : Bool := s.set && decide (s.left = 0)
def DS.spent (s : DS) : DS := if s.set = true then { s with left := s.left - 1 } else s
def lastIdx (l : List (Nat × List Int)) (i : Int) : Option Nat := (l.zipIdx.reverse.find? fun p => decide ((p.1.1 : Int) = i)).map (·.2)
def lastD (l : List (Nat × List Int)) (i : Int) : Option (List Int) := (l.reverse.find? fun p => decide ((p.1 : Int) = i)).map (·.2)
theorem lastIdx_snoc (l : List (Nat × List Int)) (x : Nat × List Int) (i : Int) : lastIdx (l ++ [x]) i = if i = (x.1 : Int) then some l.length else lastIdx l i := by
  unfold lastIdx
  rw [List.zipIdx_append, List.reverse_append]
  simp only [List.zipIdx_cons, List.zipIdx_nil, List.reverse_cons, List.reverse_nil, List.nil_append, List.singleton_append, List.find?_cons, Nat.zero_add]
  by_cases h : i = (x.1 : Int)
  · rw [if_pos h, h]
    simp
  · rw [if_neg h, decide_eq_false (fun e => h e.symm)]
theorem lastD_snoc (l : List (Nat × List Int)) (x : Nat × List Int) (i : Int) : lastD (l ++ [x]) i = if i = (x.1 : Int) then some x.2 else lastD l i := by
  unfold lastD
  rw [List.reverse_append]
  simp only [List.reverse_cons, List.reverse_nil, List.nil_append, List.singleton_append, List.find?_cons]
  by_cases h : i = (x.1 : Int)
  · rw [if_pos h, h]
    simp
  · rw [if_neg h, decide_eq_false (fun e => h e.symm)]
theorem lastD_nil (i : Int) : lastD [] i = none := rfl
theorem lastIdx_at (i : Int) : ∀ (m : Nat) (l : List (Nat × List Int)), l.length = m → (lastIdx l i = none ∧ lastD l i = none) ∨ ∃ k x, lastIdx l i = some k ∧ l[k]? = some x ∧ (x.1 : Int) = i ∧ lastD l i = some x.2
  | 0, l, hl => by
    obtain rfl := List.eq_nil_of_length_eq_zero hl
    exact Or.inl ⟨rfl, rfl⟩
  | m + 1, l, hl => by
    rcases List.eq_nil_or_concat l with rfl | ⟨l', x, rfl⟩
    · exact Or.inl ⟨rfl, rfl⟩
    rw [List.concat_eq_append] at hl ⊢
    rw [lastIdx_snoc, lastD_snoc]
    by_cases h : i = (x.1 : Int)
    · rw [if_pos h, if_pos h]
      exact Or.inr ⟨l'.length, x, rfl, by simp, h.symm, rfl⟩
    · rw [if_neg h, if_neg h]
      rcases lastIdx_at i m l' (by simpa using hl) with ih | ⟨k, y, h1, h2, h3, h4⟩
      · exact Or.inl ih
      · exact Or.inr ⟨k, y, h1, by rw [List.getElem?_append_left (List.getElem?_eq_some_iff.1 h2).1]; exact h2, h3, h4⟩
def WOk (n : Nat) (x : Nat × List Int) : Prop := x.1 < n ∧ x.2.length = 256 ∧ u8all x.2 = true
structure DS.Ok (s : DS) (n : Nat) : Prop where
  len : s.bytes.length = 256 * n
  n1 : 1 ≤ n
  n2 : n ≤ 1024
  u8 : u8all s.bytes = true
  pend : ∀ x ∈ s.pend, WOk n x
  ghosts : ∀ x ∈ s.ghosts, WOk n x
  left : s.left ≤ 9223372036854775807
theorem lay_ok {b : List Int} {n : Nat} {x : Nat × List Int} (hb : b.length = 256 * n) (hu : u8all b = true) (hx : WOk n x) : (lay b (256 * x.1) x.2).length = 256 * n ∧ u8all (lay b (256 * x.1) x.2) = true := by
  have h1 := hx.1
  have h2 := hx.2.1
  refine ⟨by rw [lay_length (by omega)]; exact hb, ?_⟩
  unfold lay
  exact u8all_append.2 ⟨u8all_take hu _, u8all_append.2 ⟨hx.2.2, u8all_drop hu _⟩⟩
theorem laysTo_snoc (b : List Int) (l : List (Nat × List Int)) (x : Nat × List Int) : laysTo b (l ++ [x]) = lay (laysTo b l) (256 * x.1) x.2 := by unfold laysTo; rw [List.foldl_append]; rfl
theorem laysTo_ok {n : Nat} : ∀ (l : List (Nat × List Int)) (b : List Int), b.length = 256 * n → u8all b = true → (∀ x ∈ l, WOk n x) → (laysTo b l).length = 256 * n ∧ u8all (laysTo b l) = true
  | [], b, hb, hu, _ => ⟨hb, hu⟩
  | x :: l, b, hb, hu, hl => by
    have h1 := lay_ok hb hu (hl x List.mem_cons_self)
    exact laysTo_ok l _ h1.1 h1.2 (fun y hy => hl y (List.mem_cons_of_mem _ hy))
def wcells (x : Nat × List Int) : List Value := .int .i64 (x.1 : Int) :: x.2.map (Value.int .u8)
theorem wcells_length {n : Nat} {x : Nat × List Int} (h : WOk n x) : (wcells x).length = 257 := by simp [wcells, h.2.1]
structure PDm (ml : List (Nat × List Int)) (w : World) (p : Nat) (F G : Nat → Prop) (sv pv : Value) (gl gg : Nat) (fg : Int → Option Value) (n : Nat) (s : DS) : Prop where
  box : Blk w p #[sv, pv, .map (some gl), .map (some gg), .bool s.set, .int .i64 (s.left : Int)] 83
  st : (Kd.int .u8).R 5 w 0 F sv s.bytes
  pd : (Kd.raw 257).R 86 w 0 F pv (s.pend.map wcells)
  la : IMap Try.prog 3 w gl (fun i => (lastIdx ml i).map fun k : Nat => Value.int .i64 (k : Int))
  gh : IMap Try.prog 3 w gg fg
  go : ∀ i : Int, (lastD s.ghosts i = none ∧ fg i = none) ∨ ∃ ys v, lastD s.ghosts i = some ys ∧ fg i = some v ∧ (Kd.int .u8).R 5 w 0 G v ys
  fp : F p
  fl : F gl
  fgg : F gg
  ne : gl ≠ gg
  sep : ∀ k, F k → ¬ G k
  fb : ∀ k, F k → k < w.heap.size
  gb : ∀ k, G k → k < w.heap.size
  ok : s.Ok n
abbrev PDr (w : World) (p : Nat) (F G : Nat → Prop) (sv pv : Value) (gl gg : Nat) (fg : Int → Option Value) (n : Nat) (s : DS) : Prop := PDm s.pend w p F G sv pv gl gg fg n s
def PD (w : World) (p : Nat) (F G : Nat → Prop) (n : Nat) (s : DS) : Prop := ∃ sv pv gl gg fg, PDr w p F G sv pv gl gg fg n s
section
variable {ml : List (Nat × List Int)} {w w' : World} {p : Nat} {F G : Nat → Prop} {sv pv : Value} {gl gg : Nat} {fg : Int → Option Value} {n : Nat} {s : DS}
theorem PDm.move (h : PDm ml w p F G sv pv gl gg fg n s) (hm : ∀ k, F k ∨ G k → w'.heap[k]? = w.heap[k]?) (hs : w.heap.size ≤ w'.heap.size) : PDm ml w' p F G sv pv gl gg fg n s where
  box := (hm p (.inl h.fp)).trans h.box
  st := Kd.R_move h.st (fun k hk => hm k (.inl hk))
  pd := Kd.R_move h.pd (fun k hk => hm k (.inl hk))
  la := h.la.move (hm gl (.inl h.fl))
  gh := h.gh.move (hm gg (.inl h.fgg))
  go := fun i => (h.go i).imp id (fun ⟨ys, v, h1, h2, h3⟩ => ⟨ys, v, h1, h2, Kd.R_move h3 (fun k hk => hm k (.inr hk))⟩)
  fp := h.fp
  fl := h.fl
  fgg := h.fgg
  ne := h.ne
  sep := h.sep
  fb := fun k hk => Nat.lt_of_lt_of_le (h.fb k hk) hs
  gb := fun k hk => Nat.lt_of_lt_of_le (h.gb k hk) hs
  ok := h.ok
theorem PDm.lt (h : PDm ml w p F G sv pv gl gg fg n s) {k : Nat} (hk : F k ∨ G k) : k < w.heap.size := hk.elim (h.fb k) (h.gb k)
theorem PDm.below (h : PDm ml w p F G sv pv gl gg fg n s) (hb : Below w.heap.size w w') : PDm ml w' p F G sv pv gl gg fg n s :=
  h.move (fun k hk => hb.block k (h.lt hk)) hb.size
theorem PDm.mapped {b : Nat} (h : PDm ml w p F G sv pv gl gg fg n s) (hg : w.grownBy w' (some b)) (hb : ∃ es clock, w.heap[b]? = some (.map es clock)) (ml' : List (Nat × List Int)) (fg' : Int → Option Value)
    (hla : IMap Try.prog 3 w' gl (fun i => (lastIdx ml' i).map fun k : Nat => Value.int .i64 (k : Int))) (hgh : IMap Try.prog 3 w' gg fg')
    (hgo : ∀ i : Int, (lastD s.ghosts i = none ∧ fg' i = none) ∨ ∃ ys v, lastD s.ghosts i = some ys ∧ fg' i = some v ∧ (Kd.int .u8).R 5 w' 0 G v ys) : PDm ml' w' p F G sv pv gl gg fg' n s := by
  obtain ⟨es, clock, hes⟩ := hb
  have hne : ∀ {k : Nat} {cs : Array Value} {t : TypeId}, w.heap[k]? = some (.cells cs t (0, 0)) → k < w.heap.size ∧ some k ≠ some b := by
    intro k cs t hk
    constructor
    · exact blk_lt hk
    · intro e
      injection e with e
      subst e
      rw [hes] at hk
      cases hk
  exact {
    box := (hg.block p (hne h.box).1 (hne h.box).2).trans h.box
    st := by
      have h1 := Kd.R_bound h.st
      refine Kd.R_mono (Kd.R_move h1 (fun k hk => ?_)) (fun _ hk => hk.1)
      obtain ⟨_, _, _, q, _, cells, hc⟩ := hk
      exact hg.block k (hne hc).1 (hne hc).2
    pd := by
      have h1 := Kd.R_bound h.pd
      refine Kd.R_mono (Kd.R_move h1 (fun k hk => ?_)) (fun _ hk => hk.1)
      obtain ⟨_, _, _, q, _, cells, hc⟩ := hk
      exact hg.block k (hne hc).1 (hne hc).2
    la := hla
    gh := hgh
    go := hgo
    fp := h.fp
    fl := h.fl
    fgg := h.fgg
    ne := h.ne
    sep := h.sep
    fb := fun k hk => Nat.lt_of_lt_of_le (h.fb k hk) hg.size
    gb := fun k hk => Nat.lt_of_lt_of_le (h.gb k hk) hg.size
    ok := h.ok }
theorem lastD_range {l : List (Nat × List Int)} {n : Nat} (hl : ∀ x ∈ l, WOk n x) {j : Int} {ys : List Int} (h : lastD l j = some ys) : 0 ≤ j ∧ j < (n : Int) := by
  rcases lastIdx_at j l.length l rfl with ⟨_, e⟩ | ⟨k, x, _, h1, h2, _⟩
  · rw [e] at h; cases h
  · have := (hl x (List.mem_of_getElem? h1)).1
    omega
theorem ghost_range (h : PDm ml w p F G sv pv gl gg fg n s) {j : Int} {v : Value} (hj : fg j = some v) : 0 ≤ j ∧ j < 1024 := by
  rcases h.go j with ⟨_, e⟩ | ⟨ys, v', e, _, _⟩
  · rw [e] at hj; cases hj
  · have := lastD_range h.ok.ghosts e
    have := h.ok.n2
    omega
theorem blk_not_map {w : World} {g b : Nat} {cs : Array Value} {t : TypeId} {P : Program} {K : TypeId} {f : Int → Option Value} (h : Blk w g cs t) (hm : IMap P K w b f) : b ≠ g := by
  intro e
  obtain ⟨D, ⟨es, clock, hb, _⟩, _⟩ := hm
  rw [e] at hb
  unfold Blk at h
  rw [h] at hb
  cases hb
theorem IMap.is {w : World} {b : Nat} {P : Program} {K : TypeId} {f : Int → Option Value} (hm : IMap P K w b f) : ∃ es clock, w.heap[b]? = some (.map es clock) := by
  obtain ⟨D, ⟨es, clock, hb, _⟩, _⟩ := hm
  exact ⟨es, clock, hb⟩
theorem ghosts_kept {b : Nat} (h : PDm ml w p F G sv pv gl gg fg n s) (hg : w.grownBy w' (some b)) (hb : F b) (i : Int) : (lastD s.ghosts i = none ∧ fg i = none) ∨ ∃ ys v, lastD s.ghosts i = some ys ∧ fg i = some v ∧ (Kd.int .u8).R 5 w' 0 G v ys :=
  (h.go i).imp id (fun ⟨ys, v, a1, a2, a3⟩ => ⟨ys, v, a1, a2, Kd.R_move a3 (fun k hk => hg.block k (h.gb k hk) (fun e => by injection e with e; subst e; exact h.sep _ hb hk))⟩)
theorem take_snoc {α : Type} {l : List α} {i : Nat} {x : α} (h : l[i]? = some x) : l.take (i + 1) = l.take i ++ [x] := by
  have hlt : i < l.length := (List.getElem?_eq_some_iff.1 h).1
  rw [List.take_succ_eq_append_getElem hlt]
  rw [List.getElem?_eq_getElem hlt] at h
  injection h with h
  rw [h]
theorem lastIdx_range {l : List (Nat × List Int)} {n : Nat} (hl : ∀ x ∈ l, WOk n x) (hn : n ≤ 1024) {j : Int} {v : Value} (h : (lastIdx l j).map (fun k : Nat => Value.int .i64 (k : Int)) = some v) : 0 ≤ j ∧ j < 1024 := by
  rcases lastIdx_at j l.length l rfl with ⟨e, _⟩ | ⟨k, x, e, h1, h2, _⟩
  · rw [e] at h; cases h
  · have := (hl x (List.mem_of_getElem? h1)).1
    omega
theorem IMap.row {w w' : World} {b : Nat} {P : Program} {K : TypeId} {f : Int → Option Value} {α : Type} {d : Kd α} {e base : Nat} {ok : Nat → Prop} {v : Value} {xs : List α} (hm : IMap P K w b f) (hr : d.R e w base ok v xs) (hg : w.grownBy w' v.ownBlock) : IMap P K w' b f :=
  hm.move (hg.block b hm.lt (fun e => by
    obtain ⟨cells, hc⟩ := Kd.R_typed hr b e.symm
    obtain ⟨es, clock, hes⟩ := IMap.is hm
    rw [hes] at hc
    cases hc))
theorem PDm.reboxed (h : PDm ml w p F G sv pv gl gg fg n s) (hT : Turn (fun k => k = p) w w') {pv' : Value} {s' : DS} (hb : Blk w' p #[sv, pv', .map (some gl), .map (some gg), .bool s'.set, .int .i64 (s'.left : Int)] 83)
    (hby : s'.bytes = s.bytes) (hgh : s'.ghosts = s.ghosts) (hpd : (Kd.raw 257).R 86 w 0 F pv' (s'.pend.map wcells)) (hok : s'.Ok n) : PDm ml w' p F G sv pv' gl gg fg n s' := by
  have hmv : ∀ k, k < w.heap.size → k ≠ p → w'.heap[k]? = w.heap[k]? := fun k hk hne => hT.block k hk hne
  have hty : ∀ {α : Type} {d : Kd α} {e : Nat} {ok : Nat → Prop} {v : Value} {xs : List α}, d.R e w 0 ok v xs → (∀ q ∈ e :: d.E, q ≠ 83) → d.R e w' 0 ok v xs := by
    intro α d e ok v xs hr hq
    refine Kd.R_mono (Kd.R_move (Kd.R_bound hr) (fun k hk => ?_)) (fun _ hk => hk.1)
    obtain ⟨_, _, hlt, q, hqe, cells, hc⟩ := hk
    refine hmv k hlt (fun e => ?_)
    subst e
    have hbx := h.box
    unfold Blk at hbx
    rw [hbx] at hc
    injection hc with hc
    injection hc with _ hc
    exact hq q hqe hc.symm
  exact {
    box := hb
    st := by rw [hby]; exact hty h.st (by decide)
    pd := hty hpd (by decide)
    la := h.la.move (hmv gl (h.fb gl h.fl) (blk_not_map h.box h.la))
    gh := h.gh.move (hmv gg (h.fb gg h.fgg) (blk_not_map h.box h.gh))
    go := fun i => by
      rw [hgh]
      rcases h.go i with h1 | ⟨ys, v, h1, h2, h3⟩
      · exact .inl h1
      · exact .inr ⟨ys, v, h1, h2, hty h3 (by decide)⟩
    fp := h.fp
    fl := h.fl
    fgg := h.fgg
    ne := h.ne
    sep := h.sep
    fb := fun k hk => Nat.lt_of_lt_of_le (h.fb k hk) hT.size
    gb := fun k hk => Nat.lt_of_lt_of_le (h.gb k hk) hT.size
    ok := hok }
theorem R_mapped {α : Type} {d : Kd α} {e b base : Nat} {ok : Nat → Prop} {v : Value} {xs : List α} (h : d.R e w base ok v xs) (hg : w.grownBy w' (some b)) (hb : ∃ es clock, w.heap[b]? = some (.map es clock)) : d.R e w' base ok v xs := by
  obtain ⟨es, clock, hes⟩ := hb
  refine Kd.R_mono (Kd.R_move (Kd.R_bound h) (fun k hk => ?_)) (fun _ hk => hk.1)
  obtain ⟨_, _, hlt, q, _, cells, hc⟩ := hk
  refine hg.block k hlt (fun e => ?_)
  injection e with e
  subst e
  rw [hes] at hc
  cases hc
theorem PDm.ghosted {base i : Nat} {v2 : Value} {xs : List Int} (h : PDr w p F G sv pv gl gg fg n s) (hm : IMap Try.prog 3 w' gg (fun j => if j = (i : Int) then some v2 else fg j)) (hg : w.grownBy w' (some gg))
    (ho : (Kd.int .u8).R 5 w base (fun _ => True) v2 xs) (hF : ∀ k, F k → k < base) (hbl : (s.set && decide (s.left = 0)) = true) (hw : WOk n (i, xs)) :
    PDr w' p F (fun k => G k ∨ (base ≤ k ∧ k < w'.heap.size)) sv pv gl gg (fun j => if j = (i : Int) then some v2 else fg j) n (s.write i xs) := by
  have hes := IMap.is h.gh
  have e : s.write i xs = { s with ghosts := s.ghosts ++ [(i, xs)] } := by unfold DS.write; rw [if_pos hbl]
  rw [e]
  exact {
    box := (hg.block p (blk_lt h.box) (fun e => by
      injection e with e
      exact blk_not_map h.box h.gh e.symm)).trans h.box
    st := R_mapped h.st hg hes
    pd := R_mapped h.pd hg hes
    la := h.la.move (hg.block gl h.la.lt (fun e => by injection e with e; exact h.ne e))
    gh := hm
    go := fun j => by
      show (lastD (s.ghosts ++ [(i, xs)]) j = none ∧ _) ∨ _
      rw [lastD_snoc]
      by_cases hj : j = (i : Int)
      · rw [if_pos hj]
        refine .inr ⟨xs, v2, rfl, by rw [if_pos hj], ?_⟩
        have h1 := R_mapped ho hg hes
        exact Kd.R_mono (Kd.R_lower (Kd.R_bound h1) (Nat.zero_le _)) (fun k hk => .inr ⟨hk.2.1, hk.2.2.1⟩)
      · rw [if_neg hj]
        rcases h.go j with ⟨h1, h2⟩ | ⟨ys, v, h1, h2, h3⟩
        · exact .inl ⟨h1, by rw [if_neg hj]; exact h2⟩
        · exact .inr ⟨ys, v, h1, by rw [if_neg hj]; exact h2, Kd.R_mono (R_mapped h3 hg hes) (fun _ hk => .inl hk)⟩
    fp := h.fp
    fl := h.fl
    fgg := h.fgg
    ne := h.ne
    sep := fun k hk hk2 => hk2.elim (h.sep k hk) (fun h' => by have := hF k hk; omega)
    fb := fun k hk => Nat.lt_of_lt_of_le (h.fb k hk) hg.size
    gb := fun k hk => hk.elim (fun h' => Nat.lt_of_lt_of_le (h.gb k h') hg.size) (fun h' => h'.2)
    ok := ⟨h.ok.len, h.ok.n1, h.ok.n2, h.ok.u8, h.ok.pend, fun x hx => by
      rcases List.mem_append.1 hx with hx | hx
      · exact h.ok.ghosts x hx
      · rw [List.mem_singleton.1 hx]; exact hw, h.ok.left⟩ }
theorem PDm.stabled {b2 : List Int} (h : PDm ml w p F G sv pv gl gg fg n s) (hr : (Kd.int .u8).R 5 w' 0 F sv b2) (hg : w.grownBy w' sv.ownBlock) (hl : b2.length = s.bytes.length) (hu : u8all b2 = true) : PDm ml w' p F G sv pv gl gg fg n { s with bytes := b2 } := by
  have hty := Kd.R_typed h.st
  have hmap : ∀ b f, IMap Try.prog 3 w b f → IMap Try.prog 3 w' b f := fun b f hm => hm.move (hg.block b hm.lt (fun e => by
    obtain ⟨cells, hc⟩ := hty b e.symm
    obtain ⟨es, clock, hes⟩ := IMap.is hm
    rw [hes] at hc
    cases hc))
  exact {
    box := (hg.block p (blk_lt h.box) (Kd.R_ne h.st h.box (by decide))).trans h.box
    st := hr
    pd := Kd.R_over' h.pd hty (by decide) hg
    la := hmap _ _ h.la
    gh := hmap _ _ h.gh
    go := fun i => (h.go i).imp id (fun ⟨ys, v, a1, a2, a3⟩ => ⟨ys, v, a1, a2, Kd.R_move a3 (fun k hk => hg.block k (h.gb k hk) (fun e => h.sep k (h.st.1 k e.symm) hk))⟩)
    fp := h.fp
    fl := h.fl
    fgg := h.fgg
    ne := h.ne
    sep := h.sep
    fb := fun k hk => Nat.lt_of_lt_of_le (h.fb k hk) hg.size
    gb := fun k hk => Nat.lt_of_lt_of_le (h.gb k hk) hg.size
    ok := ⟨hl.trans h.ok.len, h.ok.n1, h.ok.n2, hu, h.ok.pend, h.ok.ghosts, h.ok.left⟩ }
theorem R_boxed {α : Type} {d : Kd α} {e : Nat} {ok : Nat → Prop} {v u : Value} {xs : List α} {cs : Array Value} {t : TypeId} {j : Nat} (hb : Blk w p cs t) (hr : d.R e w 0 ok v xs) (hq : ∀ q ∈ e :: d.E, q ≠ t) : d.R e (w.setCell ⟨p, j, none⟩ u) 0 ok v xs := Kd.R_set hr hb hq j u
theorem PDm.appended {v6 : Value} {s2 : DS} (h : PDm ml w p F G sv pv gl gg fg n s) (hr : (Kd.raw 257).R 86 w' 0 (fun k => F k ∨ w.heap.size ≤ k) v6 (s2.pend.map wcells)) (hg : w.grownBy w' pv.ownBlock)
    (e1 : s2.bytes = s.bytes) (e2 : s2.ghosts = s.ghosts) (e3 : s2.set = s.set) (e4 : s2.left = s.left) (hok : s2.Ok n) :
    PDm ml (w'.setCell ⟨p, 1, none⟩ v6) p (fun k => F k ∨ (w.heap.size ≤ k ∧ k < w'.heap.size)) G sv v6 gl gg fg n s2 := by
  have hty := Kd.R_typed h.pd
  have hbox : Blk w' p #[sv, pv, .map (some gl), .map (some gg), .bool s.set, .int .i64 (s.left : Int)] 83 := (hg.block p (blk_lt h.box) (fun e => by
    obtain ⟨cells, hc⟩ := hty p e.symm
    have hb := h.box
    unfold Blk at hb
    rw [hb] at hc
    injection hc with hc
    injection hc with _ hc
    exact absurd hc (by decide))).trans h.box
  have hmap : ∀ b f, IMap Try.prog 3 w b f → IMap Try.prog 3 (w'.setCell ⟨p, 1, none⟩ v6) b f := fun b f hm => by
    have h1 : IMap Try.prog 3 w' b f := hm.move (hg.block b hm.lt (fun e => by
      obtain ⟨cells, hc⟩ := hty b e.symm
      obtain ⟨es, clock, hes⟩ := IMap.is hm
      rw [hes] at hc
      cases hc))
    exact h1.move (Below.heap_setCell w' ⟨p, 1, none⟩ v6 b (blk_not_map hbox h1))
  have hsz : (w'.setCell ⟨p, 1, none⟩ v6).heap.size = w'.heap.size := by simp
  exact {
    box := by rw [e3, e4]; exact hbox.set 1 v6
    st := by
      rw [e1]
      exact Kd.R_mono (R_boxed hbox (Kd.R_over' h.st hty (by decide) hg) (by decide)) (fun k hk => .inl hk)
    pd := Kd.R_mono (Kd.R_bound (R_boxed (j := 1) (u := v6) hbox hr (by decide))) (fun k hk => hk.1.imp id (fun h' => ⟨h', by have := hk.2.2.1; rw [hsz] at this; exact this⟩))
    la := hmap _ _ h.la
    gh := hmap _ _ h.gh
    go := fun i => by
      rw [e2]
      rcases h.go i with h1 | ⟨ys, v, h1, h2, h3⟩
      · exact .inl h1
      · exact .inr ⟨ys, v, h1, h2, R_boxed hbox (Kd.R_over' h3 hty (by decide) hg) (by decide)⟩
    fp := .inl h.fp
    fl := .inl h.fl
    fgg := .inl h.fgg
    ne := h.ne
    sep := fun k hk hk2 => hk.elim (fun h' => h.sep k h' hk2) (fun h' => by have := h.gb k hk2; omega)
    fb := fun k hk => by
      rw [hsz]
      exact hk.elim (fun h' => Nat.lt_of_lt_of_le (h.fb k h') hg.size) (fun h' => h'.2)
    gb := fun k hk => by
      rw [hsz]
      exact Nat.lt_of_lt_of_le (h.gb k hk) hg.size
    ok := hok }
theorem PD.below (h : PD w p F G n s) (hb : Below w.heap.size w w') : PD w' p F G n s := by
  obtain ⟨sv, pv, gl, gg, fg, h⟩ := h
  exact ⟨sv, pv, gl, gg, fg, h.below hb⟩
end
theorem pend_C {e : Nat} {w : World} {b : Nat} {F : Nat → Prop} {g m c : Nat} {l : List (Nat × List Int)} (h : (Kd.raw 257).R e w b F (.slice (some ⟨g, 0, none⟩) m c) (l.map wcells)) {k : Nat} {x : Nat × List Int} (hk : l[k]? = some x) (hx : x.2.length = 256) :
    (Kd.int .u8).C w (some ⟨g, k * 257 + 1, none⟩) 256 x.2 ∧ w.cell? ⟨g, k * 257, none⟩ = some (.int .i64 (x.1 : Int)) := by
  have hlt : k < l.length := (List.getElem?_eq_some_iff.1 hk).1
  have hm : m = l.length := by
    have := (Kd.R_reads' h).1
    rw [List.length_map] at this
    exact this
  obtain ⟨cs, _, hM, hc, _⟩ := Kd.R_elem h [] (k : Int) (by omega) (by omega)
  rw [Int.toNat_natCast, List.getD_eq_getElem?_getD, List.getElem?_map, hk] at hM
  rw [Int.toNat_natCast, show (Kd.raw 257).sz = 257 from rfl] at hc
  have hcs : cs = wcells x := hM.1
  subst hcs
  constructor
  · refine ⟨hx, by decide, fun _ => ⟨_, rfl, fun j p hj => ⟨[.int .u8 p], rfl, rfl, fun i u hu => ?_⟩⟩⟩
    have hi : i = 0 := by
      rcases Nat.eq_zero_or_pos i with h0 | h0
      · exact h0
      · rw [List.getElem?_eq_none (by simp; omega)] at hu
        cases hu
    subst hi
    have := hc (j + 1) (.int .u8 p) (by show (x.2.map (Value.int .u8))[j]? = _; rw [List.getElem?_map, hj]; rfl)
    simp only [List.getElem?_cons_zero, Option.some.injEq] at hu
    subst hu
    have e1 : (⟨g, k * 257 + 1, none⟩ : Addr).add (j * 1 + 0) = ⟨g, k * 257 + (j + 1), none⟩ := by
      rw [add_at, Nat.mul_one, show k * 257 + 1 + (j + 0) = k * 257 + (j + 1) from by omega]
    rw [show (Kd.int .u8).sz = 1 from rfl, e1]
    exact this
  · have := hc 0 (.int .i64 (x.1 : Int)) rfl
    rw [Nat.add_zero] at this
    exact this
theorem C_move {w w' : World} {k : IntKind} {g o N : Nat} {xs : List Int} (h : (Kd.int k).C w (some ⟨g, o, none⟩) N xs) (hm : w'.heap[g]? = w.heap[g]?) : (Kd.int k).C w' (some ⟨g, o, none⟩) N xs := by
  refine ⟨h.1, h.2.1, fun h0 => ?_⟩
  obtain ⟨ad, e, hc⟩ := h.2.2 h0
  injection e with e
  subst e
  refine ⟨_, rfl, fun j p hj => ?_⟩
  obtain ⟨c, h1, h2, h3⟩ := hc j p hj
  refine ⟨c, h1, h2, fun i u hu => ?_⟩
  rw [← h3 i u hu, add_at]
  exact World.cell?_of_block hm
theorem C_range {w : World} {k : IntKind} {g o N : Nat} {xs : List Int} (h : (Kd.int k).C w (some ⟨g, o, none⟩) N xs) : w.rangeAt g o (xs.map (Value.int k)) := by
  intro j v hj
  rw [List.getElem?_map] at hj
  obtain ⟨x, hx, rfl⟩ := Option.map_eq_some_iff.1 hj
  have hlt := (List.getElem?_eq_some_iff.1 hx).1
  obtain ⟨ad, e, hc⟩ := h.2.2 (by have := h.1; omega)
  injection e with e
  subst e
  obtain ⟨c, h1, h2, h3⟩ := hc j x hx
  have hc0 : c = [.int k x] := h2
  have := h3 0 (.int k x) (by rw [hc0]; rfl)
  rw [add_at, show (Kd.int k).sz = 1 from rfl, Nat.mul_one, Nat.add_zero] at this
  exact this
theorem C_sub {w : World} {k : IntKind} {g N a m : Nat} {xs : List Int} (h : (Kd.int k).C w (some ⟨g, 0, none⟩) N xs) (ha : a + m ≤ N) : (Kd.int k).C w (some ⟨g, a, none⟩) m ((xs.take (a + m)).drop a) := by
  have hl : xs.length = N := h.1
  have hN := h.2.1
  refine ⟨by rw [List.length_drop, List.length_take]; omega, by omega, fun h0 => ⟨_, rfl, fun j p hj => ?_⟩⟩
  obtain ⟨ad, e, hc⟩ := h.2.2 (by omega)
  injection e with e
  subst e
  rw [List.getElem?_drop, List.getElem?_take] at hj
  split at hj
  · obtain ⟨c, h1, h2, h3⟩ := hc (a + j) p hj
    refine ⟨c, h1, h2, fun i u hu => ?_⟩
    have := h3 i u hu
    rw [add_at, show (Kd.int k).sz = 1 from rfl] at this ⊢
    rw [show a + (j * 1 + i) = 0 + ((a + j) * 1 + i) from by omega]
    exact this
  · cases hj
theorem pend_range {e : Nat} {w : World} {b : Nat} {F : Nat → Prop} {g m c : Nat} {l : List (Nat × List Int)} (h : (Kd.raw 257).R e w b F (.slice (some ⟨g, 0, none⟩) m c) (l.map wcells)) {k : Nat} {x : Nat × List Int} (hk : l[k]? = some x) : w.rangeAt g (k * 257) (wcells x) := by
  have hlt : k < l.length := (List.getElem?_eq_some_iff.1 hk).1
  have hm : m = l.length := by
    have := (Kd.R_reads' h).1
    rw [List.length_map] at this
    exact this
  obtain ⟨cs, _, hM, hc, _⟩ := Kd.R_elem h [] (k : Int) (by omega) (by omega)
  rw [Int.toNat_natCast, List.getD_eq_getElem?_getD, List.getElem?_map, hk] at hM
  rw [Int.toNat_natCast, show (Kd.raw 257).sz = 257 from rfl] at hc
  have hcs : cs = wcells x := hM.1
  subst hcs
  exact hc
theorem wcells_one (x : Nat × List Int) : ∀ v ∈ wcells x, v.oneCell' = true := by
  intro v hv
  rcases List.mem_cons.1 hv with rfl | hv
  · rfl
  · obtain ⟨c, _, rfl⟩ := List.mem_map.1 hv
    rfl
theorem box_C {w : World} {g : Nat} {t : TypeId} {x : Nat × List Int} (hb : Blk w g (wcells x).toArray t) (hx : x.2.length = 256) : (Kd.int .u8).C w (some ⟨g, 1, none⟩) 256 x.2 := by
  refine ⟨hx, by decide, fun _ => ⟨_, rfl, fun j p hj => ⟨[.int .u8 p], rfl, rfl, fun i u hu => ?_⟩⟩⟩
  have hi : i = 0 := by
    rcases Nat.eq_zero_or_pos i with h0 | h0
    · exact h0
    · rw [List.getElem?_eq_none (by simp; omega)] at hu
      cases hu
  subst hi
  simp only [List.getElem?_cons_zero, Option.some.injEq] at hu
  subst hu
  rw [add_at, show (Kd.int .u8).sz = 1 from rfl, show 1 + (j * 1 + 0) = j + 1 from by omega]
  exact hb.cell (j + 1) _ (by
    show (wcells x).toArray[j + 1]? = _
    rw [List.getElem?_toArray]
    show (x.2.map (Value.int .u8))[j]? = _
    rw [List.getElem?_map, hj]
    rfl)
def DS.read (s : DS) (i : Nat) : List Int := (lastD s.ghosts (i : Int)).getD ((lastD s.pend (i : Int)).getD ((s.bytes.take (256 * i + 256)).drop (256 * i)))
theorem lastD_mem {l : List (Nat × List Int)} {i : Int} {ys : List Int} (h : lastD l i = some ys) : ∃ x ∈ l, x.2 = ys := by
  unfold lastD at h
  obtain ⟨x, hx, rfl⟩ := Option.map_eq_some_iff.1 h
  exact ⟨x, by have := List.mem_of_find?_eq_some hx; simpa using this, rfl⟩
theorem DS.Ok.read {s : DS} {n : Nat} (h : s.Ok n) {i : Nat} (hi : i < n) : (s.read i).length = 256 ∧ u8all (s.read i) = true := by
  unfold DS.read
  cases h1 : lastD s.ghosts (i : Int) with
  | some ys =>
    obtain ⟨x, hx, rfl⟩ := lastD_mem h1
    exact (h.ghosts x hx).2
  | none =>
    cases h2 : lastD s.pend (i : Int) with
    | some ys =>
      obtain ⟨x, hx, rfl⟩ := lastD_mem h2
      exact (h.pend x hx).2
    | none =>
      refine ⟨?_, u8all_drop (u8all_take h.u8 _) _⟩
      show ((s.bytes.take (256 * i + 256)).drop (256 * i)).length = 256
      rw [List.length_drop, List.length_take, h.len]
      omega
def DS.new (xs : List Int) : DS := ⟨xs, [], [], false, 0⟩
theorem DS.new_ok {xs : List Int} {n : Nat} (h : xs.length = 256 * n) (h1 : 1 ≤ n) (h2 : n ≤ 1024) (hu : u8all xs = true) : (DS.new xs).Ok n :=
  ⟨h, h1, h2, hu, fun _ hx => (nomatch hx), fun _ hx => (nomatch hx), Nat.zero_le _⟩
theorem PD.fresh {w : World} {p gl gg n base : Nat} {v : Value} {xs : List Int} (hb : Blk w p #[v, .slice none 0 0, .map (some gl), .map (some gg), .bool false, .int .i64 0] 83) (hl : IMap Try.prog 3 w gl fun _ => none) (hg : IMap Try.prog 3 w gg fun _ => none) (hne : gl ≠ gg)
    (hs : (Kd.int .u8).R 5 w base (fun _ => True) v xs) (h1 : base ≤ p) (h2 : base ≤ gl) (h3 : base ≤ gg) (hok : (DS.new xs).Ok n) : PD w p (fun k => base ≤ k ∧ k < w.heap.size) (fun _ => False) n (DS.new xs) :=
  ⟨v, .slice none 0 0, gl, gg, fun _ => none, {
    box := hb
    st := Kd.R_mono (Kd.R_lower (Kd.R_bound hs) (Nat.zero_le _)) (fun k hk => ⟨hk.2.1, hk.2.2.1⟩)
    pd := Kd.R_nil _ _ _ _ _
    la := hl
    gh := hg
    go := fun _ => .inl ⟨rfl, rfl⟩
    fp := ⟨h1, hb.lt⟩
    fl := ⟨h2, hl.lt⟩
    fgg := ⟨h3, hg.lt⟩
    ne := hne
    sep := fun _ _ h => h
    fb := fun _ h => h.2
    gb := fun _ h => h.elim
    ok := hok }⟩
def Did (w w' : World) (p : Nat) (F G : Nat → Prop) (n : Nat) (s : DS) : Prop := ∃ F' G', PD w' p F' G' n s ∧ Turn F w w' ∧ (∀ k, F' k → F k ∨ w.heap.size ≤ k) ∧ (∀ k, G' k → G k ∨ w.heap.size ≤ k)
theorem PD.move {w w' : World} {p n : Nat} {F G : Nat → Prop} {s : DS} (h : PD w p F G n s) (hm : ∀ k, F k ∨ G k → w'.heap[k]? = w.heap[k]?) (hs : w.heap.size ≤ w'.heap.size) : PD w' p F G n s := by
  obtain ⟨sv, pv, gl, gg, fg, h⟩ := h
  exact ⟨sv, pv, gl, gg, fg, h.move hm hs⟩
def Res.disk (p n : Nat) (s : DS) : Res := ⟨fun w O S => ∃ F G, PD w p F G n s ∧ (∀ k, F k → O k) ∧ ∀ k, G k → S k, fun {w w' O S} h hm hs => by
  obtain ⟨F, G, h, hF, hG⟩ := h
  exact ⟨F, G, h.move (fun k hk => hm k (hk.imp (hF k) (hG k))) hs, hF, hG⟩⟩
def R_one (F : Nat → Prop) (_w : World) (O _S : Nat → Prop) : Prop := ∀ k, F k → O k
theorem R_one_move {F : Nat → Prop} {w w' : World} {O S : Nat → Prop} (h : R_one F w O S) (_ : ∀ k, O k ∨ S k → w'.heap[k]? = w.heap[k]?) (_ : w.heap.size ≤ w'.heap.size) : R_one F w' O S := h
section
variable {w0 w : World} {L : List Res} {p n : Nat} {s : DS}
theorem PD.ok {F G : Nat → Prop} (h : PD w p F G n s) : s.Ok n := by
  obtain ⟨sv, pv, gl, gg, fg, h⟩ := h
  exact h.ok
theorem PD.fb {F G : Nat → Prop} (h : PD w p F G n s) {k : Nat} (hk : F k ∨ G k) : k < w.heap.size := by
  obtain ⟨sv, pv, gl, gg, fg, h⟩ := h
  exact h.lt hk
theorem PD.sep {F G : Nat → Prop} (h : PD w p F G n s) {k : Nat} (hk : F k) : ¬ G k := by
  obtain ⟨sv, pv, gl, gg, fg, h⟩ := h
  exact h.sep k hk
theorem Lies.disk (h : Lies w0 w (.disk p n s :: L)) : ∃ F G, PD w p F G n s ∧ (∀ t w', Did w w' p F G n t → Lies w0 w' (.disk p n t :: L)) ∧
    ∀ (A : Option Addr) (m : Nat) (xs : List Int), (Rd w0 L fun w' => (Kd.int .u8).C w' A m xs) → ∀ ad, A = some ad → 0 < m → ¬ F ad.block := by
  obtain ⟨O, S, ⟨F, G, hp, hF, hG⟩, h2, h3, h4, h5⟩ := h.step
  refine ⟨F, G, hp, ?_, ?_⟩
  · rintro t w' ⟨F', G', hp', ht, hF', hG'⟩
    exact h5 (R' := .disk p n t) (O' := F') (S' := G') (ht.mono hF) ⟨F', G', hp', fun _ h => h, fun _ h => h⟩ (fun k hk => (hF' k hk).imp (hF k) (fun h => ⟨h, hp'.fb (.inl hk)⟩)) (fun k hk => (hG' k hk).elim (fun h => .inl (hG k h)) (fun h => .inr (.inr ⟨h, hp'.fb (.inr hk)⟩))) (fun k hk => hp'.sep hk)
  · intro A m xs hr ad e h0 hk
    have hs : Lies w0 w (⟨fun w O S => R_one F w O S, fun h hm hs => R_one_move h hm hs⟩ :: L) := by
      refine h5 (Turn.refl _ _) (O' := F) (S' := fun _ => False) ?_ (fun k hk => .inl (hF k hk)) (fun k hk => hk.elim) (fun k _ h => h)
      exact fun k hk => hk
    obtain ⟨O2, S2, g1, -, -, -, g5, -⟩ := hs.apart hr
    exact g5 ad e h0 (g1 _ hk)
theorem Lies.disk_ok (h : Lies w0 w L) (i : Nat) (hi : L[i]? = some (.disk p n s)) : s.Ok n := by
  obtain ⟨O, S, F, G, hp, -⟩ := h.at i hi
  exact hp.ok
end
end Go.Proofs.Ytlbfpjhnpnbikaa.X
