/- Ux11: what this claim uses. Laid by slim.py (ours). -/
import Derived.Test.YtpihpabofgmahaaKUx0
import Derived.Test.YtpihpabofgmahaaKUx4
import Derived.Test.YtpihpabofgmahaaKUx7
import Derived.Test.YtpihpabofgmahaaKUx9
import Derived.Test.YtpihpabofgmahaaKUx10
namespace Go.Proofs.Ytpihpabofgmahaa.U
open Go.RowKit Go.Proofs.YtpihpabofgmahaaW.PrintWords Go.Proofs.YtpihpabofgmahaaW.PrintLast Go.Proofs.YtpihpabofgmahaaW.PrintMore
attribute [local go_sem] max2_int min2_int max_two min_two max_three min_three max_four min_four
set_option linter.unusedVariables false
set_option linter.unusedSimpArgs false
def cntL (l : List Int) : Nat := numL (cutL l 16 2)
def rcntL (l : List Int) : Nat := numL (cutL l 18 2)
def wordL (l : List Int) (i : Nat) : Nat := numL (cutL l (20 + 4 * i) 4)
def decW (l : List Int) (i : Nat) : S43 := if 2147483648 ≤ wordL l i then ⟨(wordL l i : Int) - 2147483648, markL ++ (cutL l (256 * (i + 1)) 256).drop 4⟩ else ⟨(wordL l i : Int), cutL l (256 * (i + 1)) 256⟩
def decWs (l : List Int) (n : Nat) : List S43 := (List.range n).map (decW l)
def decRs (l : List Int) (n r : Nat) : List Int := (List.range r).map fun j => (wordL l (n + j) : Int)
def badT : Int × List S43 × List Int × Int × Bool := (0, [], [], 0, false)
def record_Decode.f (l0 : List Int) (a1 : Int) : Option (Int × List S43 × List Int × Int × Bool) :=
  if X.u8all l0 = true ∧ l0.length ≤ 140737488400000 then
    if l0.length < 512 then some badT
    else if 58 < cntL l0 + rcntL l0 ∨ l0.length < (cntL l0 + 2) * 256 then some badT
    else (record_Encode.f a1 (decWs l0 (cntL l0)) (decRs l0 (cntL l0) (rcntL l0))).bind fun p => if p.2 = 0 then (bytes_HasPrefix.f l0 p.1).bind fun b => if b = true then some (a1, decWs l0 (cntL l0), decRs l0 (cntL l0) (rcntL l0), ((cntL l0 + 2 : Nat) : Int), true) else some badT else some badT
  else none
theorem decWs_succ (l : List Int) (n : Nat) : decWs l (n + 1) = decWs l n ++ [decW l n] := by
  unfold decWs
  rw [List.range_succ, List.map_append]
  rfl
theorem decRs_succ (l : List Int) (n r : Nat) : decRs l n (r + 1) = decRs l n r ++ [(wordL l (n + r) : Int)] := by
  unfold decRs
  rw [List.range_succ, List.map_append]
  rfl
theorem wordL_lt {l : List Int} (h : X.u8all l = true) {i : Nat} (hi : 20 + 4 * i + 4 ≤ l.length) : wordL l i < 4294967296 := by
  have := numL_lt _ (cutL_u8 h (20 + 4 * i) 4)
  rw [cutL_length hi] at this
  exact this
theorem cut2_lt {l : List Int} (h : X.u8all l = true) {a : Nat} (hi : a + 2 ≤ l.length) : numL (cutL l a 2) < 65536 := by
  have := numL_lt _ (cutL_u8 h a 2)
  rw [cutL_length hi] at this
  exact this
theorem blkAway {w : World} {g : Nat} {cs : Array Value} {t : TypeId} (h : X.Blk w g cs t) {g' : Nat} (hne : g ≠ g') (i : Nat) (u : Value) : X.Blk (w.setCell ⟨g', i, none⟩ u) g cs t := blk_far h hne u
theorem and_mask {x : Nat} (h : x < 4294967296) : Go.bits .and .i64 (x : Int) 2147483648 = if 2147483648 ≤ x then 2147483648 else 0 := by
  show IntKind.i64.wrap (((BitVec.ofInt 64 (x : Int)) &&& (BitVec.ofInt 64 2147483648)).toNat : Int) = _
  have e : ((BitVec.ofInt 64 (x : Int)) &&& (BitVec.ofInt 64 2147483648)).toNat = if 2147483648 ≤ x then 2147483648 else 0 := by
    rw [BitVec.ofInt_natCast, BitVec.toNat_and, BitVec.toNat_ofNat, Nat.mod_eq_of_lt (by omega)]
    have h2 : (BitVec.ofInt 64 2147483648).toNat = 2 ^ 31 := by decide
    rw [h2]
    by_cases h3 : 2147483648 ≤ x
    · rw [if_pos h3]
      obtain ⟨y, rfl⟩ : ∃ y, x = y + 2147483648 := ⟨x - 2147483648, by omega⟩
      have hor := Nat.two_pow_add_eq_or_of_lt (i := 31) (b := y) (by omega) 1
      apply Nat.eq_of_testBit_eq
      intro i
      rw [show y + 2147483648 = 2 ^ 31 * 1 + y from by omega, hor, Nat.mul_one, Nat.testBit_and, Nat.testBit_or, show 2147483648 = 2 ^ 31 from rfl, Nat.testBit_two_pow]
      cases y.testBit i <;> cases decide (31 = i) <;> rfl
    · rw [if_neg h3]
      apply Nat.eq_of_testBit_eq
      intro i
      rw [Nat.testBit_and, Nat.testBit_two_pow, Nat.zero_testBit]
      by_cases h4 : 31 = i
      · subst h4
        rw [Nat.testBit_lt_two_pow (x := x) (by omega)]
        rfl
      · rw [decide_eq_false h4]
        simp
  rw [e]
  by_cases h3 : 2147483648 ≤ x
  · rw [if_pos h3, if_pos h3]; rfl
  · rw [if_neg h3, if_neg h3]; rfl
theorem andNot_mask {x : Nat} (h : x < 4294967296) (h1 : 2147483648 ≤ x) : Go.bits .andNot .i64 (x : Int) 2147483648 = (x : Int) - 2147483648 := by
  obtain ⟨y, rfl⟩ : ∃ y, x = y + 2147483648 := ⟨x - 2147483648, by omega⟩
  show IntKind.i64.wrap (((BitVec.ofInt 64 ((y + 2147483648 : Nat) : Int)) &&& ~~~ (BitVec.ofInt 64 2147483648)).toNat : Int) = _
  have e : ((BitVec.ofInt 64 ((y + 2147483648 : Nat) : Int)) &&& ~~~ (BitVec.ofInt 64 2147483648)).toNat = y := by
    have hor := Nat.two_pow_add_eq_or_of_lt (i := 31) (b := y) (by omega) 1
    apply Nat.eq_of_testBit_eq
    intro i
    have hv : ∀ v : BitVec 64, v.toNat.testBit i = v.getLsbD i := fun v => rfl
    rw [hv, BitVec.getLsbD_and, BitVec.getLsbD_not, ← hv, ← hv, BitVec.ofInt_natCast, BitVec.toNat_ofNat, Nat.mod_eq_of_lt (by omega)]
    have h2 : (BitVec.ofInt 64 2147483648).toNat = 2 ^ 31 := by decide
    rw [h2, show y + 2147483648 = 2 ^ 31 * 1 + y from by omega, hor, Nat.mul_one, Nat.testBit_or, Nat.testBit_two_pow]
    by_cases h3 : 31 = i
    · subst h3
      rw [Nat.testBit_lt_two_pow (x := y) (by omega)]
      simp
    · rw [decide_eq_false h3]
      by_cases h4 : i < 64
      · simp [h4]
      · have : y.testBit i = false := Nat.testBit_lt_two_pow (Nat.lt_of_lt_of_le (show y < 2 ^ 31 by omega) (Nat.pow_le_pow_right (by decide) (by omega)))
        simp [this]
  rw [e, IntWalk.i64_in _ (by omega)]
  omega
structure DecI (w W : World) (A0 : Option Addr) (c0 : Nat) (l : List Int) (a : Nat) : Prop where
  res : X.Blk W w.heap.size #[.int .u64 0, .slice none 0 0, .slice none 0 0] 26
  pg : X.Blk W (w.heap.size + 1) #[.slice A0 l.length c0, .int .i64 (a : Int)] 56
  below : Below w.heap.size w W
theorem DecI.step {w W W' : World} {A0 : Option Addr} {c0 : Nat} {l : List Int} {a : Nat} (h : DecI w W A0 c0 l a) (hb : Below W.heap.size W W') : DecI w W' A0 c0 l a :=
  ⟨h.res.below hb h.res.lt, h.pg.below hb h.pg.lt, h.below.trans (hb.mono h.below.size)⟩
theorem DecI.got {w W : World} {A0 : Option Addr} {c0 : Nat} {l : List Int} {a : Nat} (h : DecI w W A0 c0 l a) (m b : Nat) : DecI w ((W.drewN m).setCell ⟨w.heap.size + 1, 1, none⟩ (.int .i64 (b : Int))) A0 c0 l b := by
  have h1 := h.step (pw_below_drewN (Below.refl W.heap.size W) m)
  exact ⟨blkAway h1.res (by omega) 1 _, h1.pg.set 1 (.int .i64 (b : Int)), h1.below.setCell (p := ⟨w.heap.size + 1, 1, none⟩) (by show w.heap.size ≤ w.heap.size + 1; omega) _⟩
theorem DecI.far {w W : World} {A0 : Option Addr} {c0 : Nat} {l : List Int} {a : Nat} (h : DecI w W A0 c0 l a) {g i : Nat} (hg : w.heap.size + 1 < g) (u : Value) : DecI w (W.setCell ⟨g, i, none⟩ u) A0 c0 l a :=
  ⟨blkAway h.res (by omega) i _, blkAway h.pg (by omega) i _, h.below.setCell (p := ⟨g, i, none⟩) (by show w.heap.size ≤ g; omega) _⟩
theorem DecI.grown {w W W' : World} {A0 : Option Addr} {c0 : Nat} {l : List Int} {a : Nat} (h : DecI w W A0 c0 l a) {row : Option Nat} (hg : W.grownBy W' row) (hr : ∀ k, row = some k → w.heap.size + 1 < k) : DecI w W' A0 c0 l a :=
  ⟨(hg.block _ h.res.lt (fun e => by have := hr _ e.symm; omega)).trans h.res, (hg.block _ h.pg.lt (fun e => by have := hr _ e.symm; omega)).trans h.pg, h.below.grown hg h.below.size (fun k hk => by have := hr k hk; omega)⟩
theorem blk3 {W : World} {g : Nat} {x0 x1 x2 : Value} {t : TypeId} (h : X.Blk W g #[x0, x1, x2] t) (y0 y1 y2 : Value) : X.Blk (((W.setCell ⟨g, 0, none⟩ y0).setCell ⟨g, 1, none⟩ y1).setCell ⟨g, 2, none⟩ y2) g #[y0, y1, y2] t := ((h.set 0 y0).set 1 y1).set 2 y2
theorem below3 {w W : World} (h : Below w.heap.size w W) (y0 y1 y2 : Value) : Below w.heap.size w (((W.setCell ⟨w.heap.size, 0, none⟩ y0).setCell ⟨w.heap.size, 1, none⟩ y1).setCell ⟨w.heap.size, 2, none⟩ y2) :=
  ((h.setCell (p := ⟨w.heap.size, 0, none⟩) (Nat.le_refl _) _).setCell (p := ⟨w.heap.size, 1, none⟩) (Nat.le_refl _) _).setCell (p := ⟨w.heap.size, 2, none⟩) (Nat.le_refl _) _
structure DecR (w W : World) (A0 : Option Addr) (c0 : Nat) (l : List Int) (a gt M : Nat) (tv : List Value) (v : Value) (ws : List S43) : Prop where
  di : DecI w W A0 c0 l a
  tb : X.Blk W gt tv.toArray 26
  ss : Kd.S k43 43 W w.heap.size (fun k => True ∧ k < M) v ws
  lo : w.heap.size + 1 < gt
  gl : gt < M
  sz : M ≤ W.heap.size
theorem DecR.step {w W W' : World} {A0 : Option Addr} {c0 : Nat} {l : List Int} {a gt M : Nat} {tv : List Value} {v : Value} {ws : List S43} (h : DecR w W A0 c0 l a gt M tv v ws) (hb : Below M W W') : DecR w W' A0 c0 l a gt M tv v ws :=
  have hl := h.lo
  have hg := h.gl
  ⟨⟨h.di.res.below hb (by omega), h.di.pg.below hb (by omega), h.di.below.trans (hb.mono (by omega))⟩, h.tb.below hb hg, Kd.S_step h.ss (fun k hk _ => hb.block k hk.2), hl, hg, Nat.le_trans h.sz hb.size⟩
theorem DecR.got {w W : World} {A0 : Option Addr} {c0 : Nat} {l : List Int} {a gt M : Nat} {tv : List Value} {v : Value} {ws : List S43} (h : DecR w W A0 c0 l a gt M tv v ws) (m b : Nat) : DecR w ((W.drewN m).setCell ⟨w.heap.size + 1, 1, none⟩ (.int .i64 (b : Int))) A0 c0 l b gt M tv v ws := by
  have h1 := h.step (pw_below_drewN (Below.refl M W) m)
  have hl := h.lo
  exact ⟨h.di.got m b, blkAway h1.tb (by omega) 1 _, Kd.S_set h1.ss h1.di.pg (by decide) 1 _, hl, h.gl, by have := h1.sz; simpa using this⟩
theorem DecR.far {w W : World} {A0 : Option Addr} {c0 : Nat} {l : List Int} {a gt M : Nat} {tv : List Value} {v : Value} {ws : List S43} (h : DecR w W A0 c0 l a gt M tv v ws) {g : Nat} (hg : M ≤ g) (j : Nat) (u : Value) : DecR w (W.setCell ⟨g, j, none⟩ u) A0 c0 l a gt M tv v ws := h.step ((Below.refl M W).setCell (p := ⟨g, j, none⟩) hg u)
theorem DecR.end_ {w W W' : World} {A0 : Option Addr} {c0 : Nat} {l : List Int} {a gt M : Nat} {tv : List Value} {v v1 : Value} {ws ws1 : List S43} (h : DecR w W A0 c0 l a gt M tv v ws) (hg : W.grownBy W' v.ownBlock) (hb : Below w.heap.size w W') (hs : Kd.S k43 43 W' w.heap.size (fun _ => True) v1 ws1) : X.Blk W' gt tv.toArray 26 ∧ DecI w (W'.setCell ⟨gt, 1, none⟩ v1) A0 c0 l a ∧ X.Blk (W'.setCell ⟨gt, 1, none⟩ v1) gt (tv.toArray.setIfInBounds 1 v1) 26 ∧ Kd.S k43 43 (W'.setCell ⟨gt, 1, none⟩ v1) w.heap.size (fun _ => True) v1 ws1 := by
  have hl := h.lo
  have t1 : X.Blk W' gt tv.toArray 26 := (hg.block gt h.tb.lt (Kd.S_ne h.ss h.tb (by decide))).trans h.tb
  have r1 : X.Blk W' w.heap.size #[.int .u64 0, .slice none 0 0, .slice none 0 0] 26 := (hg.block _ h.di.res.lt (Kd.S_ne h.ss h.di.res (by decide))).trans h.di.res
  have p1 : X.Blk W' (w.heap.size + 1) #[.slice A0 l.length c0, .int .i64 (a : Int)] 56 := (hg.block _ h.di.pg.lt (Kd.S_ne h.ss h.di.pg (by decide))).trans h.di.pg
  exact ⟨t1, ⟨blkAway r1 (by omega) 1 _, blkAway p1 (by omega) 1 _, hb.setCell (p := ⟨gt, 1, none⟩) (by show w.heap.size ≤ gt; omega) _⟩, t1.set 1 v1, Kd.S_set hs t1 (by decide) 1 _⟩
theorem lay_mark {q : List Int} (h : q.length = 256) : X.lay q 0 (X.nums { data := #[85, 76, 79, 71] }) = markL ++ q.drop 4 := by
  have e : X.nums { data := #[85, 76, 79, 71] } = markL := rfl
  rw [e]
  unfold X.lay
  simp [markL]
theorem decWs_length (l : List Int) (n : Nat) : (decWs l n).length = n := by simp [decWs]
theorem ss3 {w W : World} {g : Nat} {cs : Array Value} {v : Value} {xs : List S43} (h : Kd.S k43 43 W w.heap.size (fun _ => True) v xs) (hb : X.Blk W g cs 26) (y0 y1 y2 : Value) : Kd.S k43 43 (((W.setCell ⟨g, 0, none⟩ y0).setCell ⟨g, 1, none⟩ y1).setCell ⟨g, 2, none⟩ y2) w.heap.size (fun _ => True) v xs :=
  Kd.S_set (Kd.S_set (Kd.S_set h hb (by decide) 0 y0) (hb.set 0 y0) (by decide) 1 y1) ((hb.set 0 y0).set 1 y1) (by decide) 2 y2
theorem rr3 {w W : World} {g : Nat} {cs : Array Value} {v : Value} {xs : List Int} (h : Kd.R (Kd.int .i64) 3 W w.heap.size (fun _ => True) v xs) (hb : X.Blk W g cs 26) (y0 y1 y2 : Value) : Kd.R (Kd.int .i64) 3 (((W.setCell ⟨g, 0, none⟩ y0).setCell ⟨g, 1, none⟩ y1).setCell ⟨g, 2, none⟩ y2) w.heap.size (fun _ => True) v xs :=
  Kd.R_set (Kd.R_set (Kd.R_set h hb (by decide) 0 y0) (hb.set 0 y0) (by decide) 1 y1) ((hb.set 0 y0).set 1 y1) (by decide) 2 y2
theorem decRs_length (l : List Int) (n r : Nat) : (decRs l n r).length = r := by simp [decRs]
structure DecQ (w W : World) (A0 : Option Addr) (c0 : Nat) (l : List Int) (a gt : Nat) (tv : List Value) (sv : Value) (ws : List S43) (u : Value) (rs : List Int) : Prop where
  di : DecI w W A0 c0 l a
  tb : X.Blk W gt tv.toArray 26
  ss : Kd.S k43 43 W w.heap.size (fun _ => True) sv ws
  rr : Kd.R (Kd.int .i64) 3 W w.heap.size (fun _ => True) u rs
  lo : w.heap.size + 1 < gt
theorem DecQ.step {w W W' : World} {A0 : Option Addr} {c0 : Nat} {l : List Int} {a gt : Nat} {tv : List Value} {sv : Value} {ws : List S43} {u : Value} {rs : List Int} (h : DecQ w W A0 c0 l a gt tv sv ws u rs) (hb : Below W.heap.size W W') : DecQ w W' A0 c0 l a gt tv sv ws u rs :=
  ⟨h.di.step hb, h.tb.below hb h.tb.lt, Kd.S_below h.ss hb, Kd.R_below h.rr hb, h.lo⟩
theorem DecQ.got {w W : World} {A0 : Option Addr} {c0 : Nat} {l : List Int} {a gt : Nat} {tv : List Value} {sv : Value} {ws : List S43} {u : Value} {rs : List Int} (h : DecQ w W A0 c0 l a gt tv sv ws u rs) (m b : Nat) : DecQ w ((W.drewN m).setCell ⟨w.heap.size + 1, 1, none⟩ (.int .i64 (b : Int))) A0 c0 l b gt tv sv ws u rs := by
  have h1 := h.step (pw_below_drewN (Below.refl W.heap.size W) m)
  have hl := h.lo
  exact ⟨h.di.got m b, blkAway h1.tb (by omega) 1 _, Kd.S_set h1.ss h1.di.pg (by decide) 1 _, Kd.R_set h1.rr h1.di.pg (by decide) 1 _, hl⟩
theorem DecQ.end_ {w W W' : World} {A0 : Option Addr} {c0 : Nat} {l : List Int} {a gt : Nat} {tv : List Value} {sv : Value} {ws : List S43} {u u1 : Value} {rs rs1 : List Int} (h : DecQ w W A0 c0 l a gt tv sv ws u rs) (hg : W.grownBy W' u.ownBlock) (hb : Below w.heap.size w W') (hr : Kd.R (Kd.int .i64) 3 W' w.heap.size (fun _ => True) u1 rs1) : X.Blk W' gt tv.toArray 26 ∧ DecI w (W'.setCell ⟨gt, 2, none⟩ u1) A0 c0 l a ∧ X.Blk (W'.setCell ⟨gt, 2, none⟩ u1) gt (tv.toArray.setIfInBounds 2 u1) 26 ∧ Kd.S k43 43 (W'.setCell ⟨gt, 2, none⟩ u1) w.heap.size (fun _ => True) sv ws ∧ Kd.R (Kd.int .i64) 3 (W'.setCell ⟨gt, 2, none⟩ u1) w.heap.size (fun _ => True) u1 rs1 := by
  have hl := h.lo
  have t1 : X.Blk W' gt tv.toArray 26 := (hg.block gt h.tb.lt (Kd.R_ne h.rr h.tb (by decide))).trans h.tb
  have r1 : X.Blk W' w.heap.size #[.int .u64 0, .slice none 0 0, .slice none 0 0] 26 := (hg.block _ h.di.res.lt (Kd.R_ne h.rr h.di.res (by decide))).trans h.di.res
  have p1 : X.Blk W' (w.heap.size + 1) #[.slice A0 l.length c0, .int .i64 (a : Int)] 56 := (hg.block _ h.di.pg.lt (Kd.R_ne h.rr h.di.pg (by decide))).trans h.di.pg
  exact ⟨t1, ⟨blkAway r1 (by omega) 2 _, blkAway p1 (by omega) 2 _, hb.setCell (p := ⟨gt, 2, none⟩) (by show w.heap.size ≤ gt; omega) _⟩, t1.set 2 u1, Kd.S_set (Kd.S_over' h.ss (Kd.R_typed h.rr) (by decide) hg) t1 (by decide) 2 _, Kd.R_set hr t1 (by decide) 2 _⟩
set_option maxHeartbeats 8000000 in
set_option maxRecDepth 100000 in
theorem record_Decode.calls (A0 : Option Addr) (c0 : Nat) (l0 : List Int) (a1 : Int) (r1 : Int) (r2 : List S43) (r3 : List Int) (r4 : Int) (r5 : Bool) (w : World) (hr0 : Kd.C (Kd.int .u8) w A0 l0.length l0) (hc0 : l0.length ≤ c0) (h : record_Decode.f l0 a1 = some (r1, r2, r3, r4, r5)) :
    Calls Try.prog 16 #[.slice A0 l0.length c0, .int .u64 a1] w fun e w' => ∃ v1_ v2_ : Value, e = .returned (.tuple #[.agg #[.int .u64 r1, v1_, v2_], .int .i64 r4, .bool r5]) ∧ Kd.S k43 43 w' w.heap.size (fun _ => True) v1_ r2 ∧ Kd.R (Kd.int .i64) 3 w' w.heap.size (fun _ => True) v2_ r3 ∧ Below w.heap.size w w' := by
  unfold record_Decode.f at h
  by_cases hcnd : X.u8all l0 = true ∧ l0.length ≤ 140737488400000
  rotate_left
  · rw [if_neg hcnd] at h
    cases h
  rw [if_pos hcnd] at h
  obtain ⟨hu, hmx⟩ := hcnd
  have HU := Aside0.mk hu
  have HC := Aside0.mk hr0
  have HCC := Aside0.mk hc0
  clear hu hr0
  have hu26 := Try.underlying26
  have hu43 := Try.underlying43
  have hu56 := Try.underlying56
  by_cases h512 : l0.length < 512
  · rw [if_pos h512] at h
    obtain ⟨rfl, rfl, rfl, rfl, rfl⟩ : 0 = r1 ∧ [] = r2 ∧ [] = r3 ∧ 0 = r4 ∧ false = r5 := by simpa [badT] using h
    have t1 : decide ((l0.length : Int) < 512) = true := decide_eq_true (by omega)
    have t2 : decide (l0.length < 512) = true := decide_eq_true (by omega)
    clear h h512
    go_enter Try.func16, Try.ntmps16
    go_wp2
    exact bodyPost_ret (results_ctt (P := Try.prog) (fn := Try.f16) rfl _ _ w.heap.size 26 #[.int .u64 0, .slice none 0 0, .slice none 0 0] (0, 0) _ rfl (X.Blk.new w _ _) Try.underlying26 rfl (by kernel_rfl)) rfl ⟨.slice none 0 0, .slice none 0 0, rfl, Kd.S_nil _ _ _ _ _, Kd.R_nil _ _ _ _ _, (Below.refl _ _).alloc (Nat.le_refl _) _⟩
  rw [if_neg h512] at h
  have HF := Aside0.mk h
  clear h
  have t1 : decide ((l0.length : Int) < 512) = false := decide_eq_false (by omega)
  have t2 : decide (l0.length < 512) = false := decide_eq_false (by omega)
  have hge : 512 ≤ l0.length := by omega
  clear h512
  have hn := cut2_lt HU.out (a := 16) (by omega)
  have hr := cut2_lt HU.out (a := 18) (by omega)
  go_enter Try.func16, Try.ntmps16
  go_wp2_with fail
  have HI0 : Aside0 (DecI w ((w.alloc (.cells #[.int .u64 0, .slice none 0 0, .slice none 0 0] 26 (0, 0))).alloc (.cells #[.slice A0 l0.length c0, .int .i64 16] 56 (0, 0))) A0 c0 l0 16) := ⟨⟨(X.Blk.new w _ _).below ((Below.refl _ _).alloc (Nat.le_refl _) _) (X.Blk.new w _ _).lt, by
    have := X.Blk.new (w.alloc (.cells #[.int .u64 0, .slice none 0 0, .slice none 0 0] 26 (0, 0))) #[.slice A0 l0.length c0, .int .i64 16] 56
    rw [show (w.alloc (.cells #[.int .u64 0, .slice none 0 0, .slice none 0 0] 26 (0, 0))).heap.size = w.heap.size + 1 from by simp] at this
    exact this, ((Below.refl _ _).alloc (Nat.le_refl _) _).alloc (by simp) _⟩⟩
  refine (record_get.calls (w.heap.size + 1) A0 c0 l0 16 2 _ (Kd.C_below HC.out HI0.out.below) hc0 HU.out HI0.out.pg (by decide) (by omega) (by omega)).mono ?_
  rintro e w2 ⟨rfl, m, rfl⟩
  have HI1 := Aside0.mk (HI0.out.got m 18)
  generalize (World.drewN _ m).setCell ⟨w.heap.size + 1, 1, none⟩ _ = w2 at *
  clear HI0
  have hcn : cntL l0 = numL (cutL l0 16 2) := rfl
  have hrn : rcntL l0 = numL (cutL l0 18 2) := rfl
  rw [← hcn] at hn ⊢
  rw [← hrn] at hr
  have hs1 : IntKind.i64.wrap (cntL l0 : Int) = (cntL l0 : Int) := IntWalk.i64_in _ (by omega)
  clear hcn
  go_wp2_with fail
  refine (record_get.calls (w.heap.size + 1) A0 c0 l0 18 2 _ (Kd.C_below HC.out HI1.out.below) hc0 HU.out HI1.out.pg (by decide) (by omega) (by omega)).mono ?_
  rintro e w3 ⟨rfl, m3, rfl⟩
  have HI2 := Aside0.mk (HI1.out.got m3 20)
  generalize (World.drewN _ m3).setCell ⟨w.heap.size + 1, 1, none⟩ _ = w3 at *
  rw [← hrn]
  clear HI1 hrn
  have hs2 : IntKind.i64.wrap (rcntL l0 : Int) = (rcntL l0 : Int) := IntWalk.i64_in _ (by omega)
  obtain ⟨n, hnn⟩ : ∃ n, n = cntL l0 := ⟨_, rfl⟩
  obtain ⟨r, hrr⟩ : ∃ r, r = rcntL l0 := ⟨_, rfl⟩
  rw [← hnn] at hn hs1 HF ⊢
  rw [← hrr] at hr hs2 HF ⊢
  clear hnn hrr
  by_cases hg1 : 58 < n + r
  · rw [if_pos (Or.inl hg1)] at HF
    obtain ⟨rfl, rfl, rfl, rfl, rfl⟩ : 0 = r1 ∧ [] = r2 ∧ [] = r3 ∧ 0 = r4 ∧ false = r5 := by simpa [badT] using HF.out
    have q1 : decide (58 < (n : Int) + (r : Int)) = true := decide_eq_true (by omega)
    have hr0 := HI2.out.res.cell 0 _ rfl
    have hr1 := HI2.out.res.cell 1 _ rfl
    have hr2 := HI2.out.res.cell 2 _ rfl
    have hf0 := HI2.out.res.free 0
    have hf1 := HI2.out.res.free 1
    have hf2 := HI2.out.res.free 2
    clear HF hg1
    go_wp2
    exact bodyPost_ret (results_ctt (P := Try.prog) (fn := Try.f16) rfl _ _ w.heap.size 26 #[.int .u64 0, .slice none 0 0, .slice none 0 0] (0, 0) _ rfl (blk3 HI2.out.res _ _ _) Try.underlying26 rfl (by kernel_rfl)) rfl ⟨.slice none 0 0, .slice none 0 0, rfl, Kd.S_nil _ _ _ _ _, Kd.R_nil _ _ _ _ _, below3 HI2.out.below _ _ _⟩
  have q1 : decide (58 < (n : Int) + (r : Int)) = false := decide_eq_false (by omega)
  by_cases hg2 : l0.length < (n + 2) * 256
  · rw [if_pos (Or.inr hg2)] at HF
    obtain ⟨rfl, rfl, rfl, rfl, rfl⟩ : 0 = r1 ∧ [] = r2 ∧ [] = r3 ∧ 0 = r4 ∧ false = r5 := by simpa [badT] using HF.out
    have q2 : decide ((l0.length : Int) < ((n : Int) + 2) * 256) = true := decide_eq_true (by omega)
    have hr0 := HI2.out.res.cell 0 _ rfl
    have hr1 := HI2.out.res.cell 1 _ rfl
    have hr2 := HI2.out.res.cell 2 _ rfl
    have hf0 := HI2.out.res.free 0
    have hf1 := HI2.out.res.free 1
    have hf2 := HI2.out.res.free 2
    clear HF hg1 hg2
    go_wp2
    exact bodyPost_ret (results_ctt (P := Try.prog) (fn := Try.f16) rfl _ _ w.heap.size 26 #[.int .u64 0, .slice none 0 0, .slice none 0 0] (0, 0) _ rfl (blk3 HI2.out.res _ _ _) Try.underlying26 rfl (by kernel_rfl)) rfl ⟨.slice none 0 0, .slice none 0 0, rfl, Kd.S_nil _ _ _ _ _, Kd.R_nil _ _ _ _ _, below3 HI2.out.below _ _ _⟩
  rw [if_neg (by omega)] at HF
  have q2 : decide ((l0.length : Int) < ((n : Int) + 2) * 256) = false := decide_eq_false (by omega)
  go_wp2_with fail
  obtain ⟨gt, hgt⟩ : ∃ gt, gt = w3.heap.size := ⟨_, rfl⟩
  have HG : Aside0 (w.heap.size + 1 < gt) := ⟨by rw [hgt]; exact HI2.out.pg.lt⟩
  have HI3 := Aside0.mk (HI2.out.step ((Below.refl w3.heap.size w3).alloc (Nat.le_refl _) (.cells #[.int .u64 a1, .slice none 0 0, .slice none 0 0] 26)))
  have HT3 : Aside0 (X.Blk (w3.alloc (.cells #[.int .u64 a1, .slice none 0 0, .slice none 0 0] 26)) gt #[.int .u64 a1, .slice none 0 0, .slice none 0 0] 26) := ⟨by rw [hgt]; exact X.Blk.new w3 _ _⟩
  generalize w3.alloc (.cells #[.int .u64 a1, .slice none 0 0, .slice none 0 0] 26) = w4 at *
  rw [← hgt]
  have HN : Aside0 ((n + 2) * 256 ≤ l0.length) := ⟨by omega⟩
  have HN58 : Aside0 (n + r ≤ 58) := ⟨by omega⟩
  clear HI2 hgt hg1 hg2
  go_loopg [46] n (fun kq v46 w' => ∃ (i : Nat) (v : Value), v46 = .int .i64 (i : Int) ∧ Aside0 (kq + i = n) ∧ Aside0 (DecI w w' A0 c0 l0 (20 + 4 * i)) ∧ Aside0 (X.Blk w' gt #[.int .u64 a1, v, .slice none 0 0] 26) ∧ Aside0 (Kd.S k43 43 w' w.heap.size (fun _ => True) v (decWs l0 i)))
  case atStart => exact ⟨0, _, rfl, ⟨by omega⟩, HI3, HT3, ⟨Kd.S_nil _ _ _ _ _⟩⟩
  case round =>
    clear HI3 HT3
    obtain ⟨i, v, rfl, HK, HI, HT, HS⟩ := hrel
    by_cases hlt : i < n
    · have q0 : decide ((i : Int) < (n : Int)) = true := decide_eq_true (by omega)
      have q00 : decide (i < n) = true := decide_eq_true hlt
      have h58 := HN58.out
      have h256 := HN.out
      obtain ⟨M, hM⟩ : ∃ M, M = wr.heap.size := ⟨_, rfl⟩
      have HR : Aside0 (DecR w wr A0 c0 l0 (20 + 4 * i) gt M [.int .u64 a1, v, .slice none 0 0] v (decWs l0 i)) := ⟨⟨HI.out, HT.out, by rw [hM]; exact Kd.S_old HS.out (Below.refl _ _), HG.out, by rw [hM]; exact HT.out.lt, by omega⟩⟩
      have HVL : Aside0 (∀ k, v.ownBlock = some k → k < M) := ⟨by rw [hM]; exact Kd.S_lt HS.out⟩
      clear HI HT HS
      obtain ⟨A', hcut, hcutC, hcl⟩ := cutL_run A0 c0 l0 (256 * (i + 1)) 256 HCC.out (by omega)
      have HQC := Aside0.mk hcutC
      have hqu := cutL_u8 HU.out (256 * (i + 1)) 256
      have hql : (cutL l0 (256 * (i + 1)) 256).length = 256 := cutL_length (by omega)
      have HDW : Aside0 (decW l0 i = if 2147483648 ≤ wordL l0 i then ⟨(wordL l0 i : Int) - 2147483648, markL ++ (cutL l0 (256 * (i + 1)) 256).drop 4⟩ else ⟨(wordL l0 i : Int), cutL l0 (256 * (i + 1)) 256⟩) := ⟨rfl⟩
      have HWL : Aside0 (wordL l0 i = numL (cutL l0 (20 + 4 * i) 4)) := ⟨rfl⟩
      have hwl := wordL_lt HU.out (i := i) (by omega)
      obtain ⟨q, hq⟩ : ∃ q, q = cutL l0 (256 * (i + 1)) 256 := ⟨_, rfl⟩
      obtain ⟨wd, hwd⟩ : ∃ wd, wd = wordL l0 i := ⟨_, rfl⟩
      rw [← hq] at HQC hqu hql HDW
      rw [← hwd] at HDW HWL hwl
      have HQU := Aside0.mk hqu
      have HQL := Aside0.mk hql
      have e1 : ((256 * (i + 1) : Nat) : Int) = ((i : Int) + 1) * 256 := by omega
      have e2 : ((i : Int) + 1) * 256 + ((256 : Nat) : Int) = ((i : Int) + 2) * 256 := by omega
      rw [e1, e2] at hcut
      clear e1 e2 hcutC hqu hql hq hwd
      have hw1 : IntKind.i64.wrap ((i : Int) + 1) = (i : Int) + 1 := IntWalk.i64_in _ (by omega)
      have hw2 : IntKind.i64.wrap (((i : Int) + 1) * 256) = ((i : Int) + 1) * 256 := IntWalk.i64_in _ (by omega)
      have hw3 : IntKind.i64.wrap ((i : Int) + 2) = (i : Int) + 2 := IntWalk.i64_in _ (by omega)
      have hw4 : IntKind.i64.wrap (((i : Int) + 2) * 256) = ((i : Int) + 2) * 256 := IntWalk.i64_in _ (by omega)
      have hw5 : IntKind.i64.wrap (wd : Int) = (wd : Int) := IntWalk.i64_in _ (by omega)
      go_wp2_with fail
      refine start_ (n := 15) (S := (fun _ => True)) (ds := []) #[false, false, false, false, false, false, false, false, false, false, false, false, false, false, false] (by kernel_rfl) rfl rfl trivial (fun hHeld => ?_)
      refine pure_ (i := 0) (N := some 49) (v := ?_) (a' := ?_) #[true, false, false, false, false, false, false, false, false, false, false, false, false, false, false] rfl rfl (by kernel_rfl) (fun _ _ _ h => h) (Or.inl ⟨by rfl, ?_⟩) ?_ ?_
      rotate_left
      · intro w'
        go_simp
        with_reducible rfl
      rotate_left
      · simp only [Act.put, List.setIfInBounds_toArray, List.set_cons_zero, List.set_cons_succ, i64_w, i32_w]
        rfl
      refine pure_ (i := 3) (N := some 52) (v := ?_) (a' := ?_) #[true, false, false, true, false, false, false, false, false, false, false, false, false, false, false] rfl rfl (by kernel_rfl) (fun _ _ _ h => h) (Or.inl ⟨by rfl, ?_⟩) ?_ ?_
      rotate_left
      · intro w'
        go_simp
        with_reducible rfl
      rotate_left
      · simp only [Act.put, List.setIfInBounds_toArray, List.set_cons_zero, List.set_cons_succ, i64_w, i32_w]
        rfl
      refine pure_ (i := 4) (N := some 53) (v := ?_) (a' := ?_) #[true, false, false, true, true, false, false, false, false, false, false, false, false, false, false] rfl rfl (by kernel_rfl) (fun _ _ _ h => h) (Or.inl ⟨by rfl, ?_⟩) ?_ ?_
      rotate_left
      · intro w'
        go_simp
        with_reducible rfl
      rotate_left
      · simp only [Act.put, List.setIfInBounds_toArray, List.set_cons_zero, List.set_cons_succ, i64_w, i32_w]
        rfl
      refine pure_ (i := 5) (N := some 54) (v := ?_) (a' := ?_) #[true, false, false, true, true, true, false, false, false, false, false, false, false, false, false] rfl rfl (by kernel_rfl) (fun _ _ _ h => h) (Or.inl ⟨by rfl, ?_⟩) ?_ ?_
      rotate_left
      · intro w'
        go_simp
        with_reducible rfl
      rotate_left
      · simp only [Act.put, List.setIfInBounds_toArray, List.set_cons_zero, List.set_cons_succ, i64_w, i32_w]
        rfl
      refine pure_ (i := 6) (N := some 55) (v := ?_) (a' := ?_) #[true, false, false, true, true, true, true, false, false, false, false, false, false, false, false] rfl rfl (by kernel_rfl) (fun _ _ _ h => h) (Or.inl ⟨by rfl, ?_⟩) ?_ ?_
      rotate_left
      · intro w'
        go_simp
        with_reducible rfl
      rotate_left
      · simp only [Act.put, List.setIfInBounds_toArray, List.set_cons_zero, List.set_cons_succ, i64_w, i32_w]
        rfl
      refine pure_ (i := 7) (N := some 56) (v := ?_) (a' := ?_) #[true, false, false, true, true, true, true, true, false, false, false, false, false, false, false] rfl rfl (by kernel_rfl) (fun _ _ _ h => h) (Or.inl ⟨by rfl, ?_⟩) ?_ ?_
      rotate_left
      · intro w'
        go_simp
        with_reducible rfl
      rotate_left
      · simp only [Act.put, List.setIfInBounds_toArray, List.set_cons_zero, List.set_cons_succ, i64_w, i32_w]
        rfl
      refine pure_ (i := 8) (N := some 57) (v := ?_) (a' := ?_) #[true, false, false, true, true, true, true, true, true, false, false, false, false, false, false] rfl rfl (by kernel_rfl) (fun _ _ _ h => h) (Or.inl ⟨by rfl, ?_⟩) ?_ ?_
      rotate_left
      · intro w'
        go_simp
        with_reducible rfl
      rotate_left
      · simp only [Act.put, List.setIfInBounds_toArray, List.set_cons_zero, List.set_cons_succ, i64_w, i32_w]
        rfl
      refine pure_ (i := 9) (N := some 58) (v := ?_) (a' := ?_) #[true, false, false, true, true, true, true, true, true, true, false, false, false, false, false] rfl rfl (by kernel_rfl) (fun _ _ _ h => h) (Or.inl ⟨by rfl, ?_⟩) ?_ ?_
      rotate_left
      · intro w'
        go_simp
        with_reducible rfl
      rotate_left
      · simp only [Act.put, List.setIfInBounds_toArray, List.set_cons_zero, List.set_cons_succ, i64_w, i32_w]
        rfl
      refine pure_ (i := 10) (N := some 59) (v := ?_) (a' := ?_) #[true, false, false, true, true, true, true, true, true, true, true, false, false, false, false] rfl rfl (by kernel_rfl) (fun _ _ _ h => h) (Or.inl ⟨by rfl, ?_⟩) ?_ ?_
      rotate_left
      · intro w'
        go_simp
        with_reducible rfl
      rotate_left
      · simp only [Act.put, List.setIfInBounds_toArray, List.set_cons_zero, List.set_cons_succ, i64_w, i32_w]
        rfl
      have HR1 := Aside0.mk (HR.out.step (below_drew1 (Below.refl M wr)))
      generalize wr.drew = w5 at *
      clear HR hcut hM
      refine join_ (σ := Nat × Nat × Nat) 1 #[true, true, true, true, true, true, true, true, true, true, true, true, true, true, false] (fun s_ => [(50, .int .u64 (wd : Int)), (51, .int .i64 (wd : Int)), (60, .slice (some ⟨s_.1, 0, none⟩) 256 s_.2.1), (61, .agg #[.int .i64 (wd : Int), .slice (some ⟨s_.1, 0, none⟩) 256 s_.2.1]), (13, .pointer (some ⟨s_.2.2, 0, none⟩))]) (fun s_ w' => DecR w w' A0 c0 l0 (20 + 4 * (i + 1)) gt M [.int .u64 a1, v, .slice none 0 0] v (decWs l0 i) ∧ Kd.R (Kd.int .u8) 5 w' M (fun _ => True) (.slice (some ⟨s_.1, 0, none⟩) 256 s_.2.1) q ∧ X.Blk w' s_.2.2 #[.int .i64 0, .slice none 0 0] 43 ∧ M ≤ s_.2.2 ∧ True) ?_ ?_
      rotate_left
      · intro hCont
        refine two_ (i := 1) (j := 13) (Ni := some 50) (Nj := some 13) #[true, true, false, true, true, true, true, true, true, true, true, false, false, false, false] #[true, false, false, true, true, true, true, true, true, true, true, false, false, true, false] rfl rfl rfl rfl (by kernel_rfl) (by decide) (by decide) (fun K hK => ?_) (fun K hK => ?_)
        · skip
          refine goes_ Try.func31 (by kernel_rfl) rfl #[.pointer (some ⟨w.heap.size + 1, 0, none⟩), .int .i64 4] (by rfl) rfl rfl (by (try simp only [List.map_toArray, List.map_cons, List.map_nil]); first | done | rfl) ?_
          refine (record_get.calls (w.heap.size + 1) A0 c0 l0 (20 + 4 * i) 4 _ (Kd.C_below HC.out HR1.out.di.below) HCC.out HU.out HR1.out.di.pg (by decide) (by omega) (by omega)).mono ?_
          rintro e w_1 ⟨rfl, m_1, rfl⟩
          refine ⟨_, rfl, ?_⟩
          rw [← HWL.out]
          have HR11 := Aside0.mk (HR1.out.got m_1 (20 + 4 * i + 4))
          rw [show 20 + 4 * i + 4 = 20 + 4 * (i + 1) from by omega] at *
          generalize (World.drewN _ m_1).setCell ⟨w.heap.size + 1, 1, none⟩ _ = W_1 at *
          clear HR1
          refine hK.out _ _ trivial (fun hHeld => ?_)
          clear hK K
          refine norm_ (a' := ?_) ?_ ?_
          rotate_left
          · show Act.put _ (some 50) _ = _
            simp only [Act.put, List.setIfInBounds_toArray, List.set_cons_zero, List.set_cons_succ, i64_w, i32_w]
            rfl
          refine pure_ (i := 2) (N := some 51) (v := ?_) (a' := ?_) #[true, true, true, true, true, true, true, true, true, true, true, false, false, false, false] rfl rfl (by kernel_rfl) (fun _ _ _ h => h) (Or.inl ⟨by rfl, ?_⟩) ?_ ?_
          rotate_left
          · intro w'
            go_simp
            with_reducible rfl
          rotate_left
          · simp only [Act.put, List.setIfInBounds_toArray, List.set_cons_zero, List.set_cons_succ, i64_w, i32_w]
            rfl
          refine two_ (i := 11) (j := 13) (Ni := some 60) (Nj := some 13) #[true, true, true, true, true, true, true, true, true, true, true, true, false, false, false] #[true, true, true, true, true, true, true, true, true, true, true, false, false, true, false] rfl rfl rfl rfl (by kernel_rfl) (by decide) (by decide) (fun K hK => ?_) (fun K hK => ?_)
          · skip
            refine goes_ Try.func32 (by kernel_rfl) rfl #[.slice A' 256 (c0 - 256 * (i + 1))] (by rfl) rfl rfl (by (try simp only [List.map_toArray, List.map_cons, List.map_nil]); first | done | rfl) ?_
            have hcl_ := bytes_Clone.calls A' (c0 - 256 * (i + 1)) q q W_1 (by rw [HQL.out]; exact HQC.out _ (Kd.C_below HC.out HR11.out.di.below)) (by rw [HQL.out]; exact hcl) (by unfold bytes_Clone.f; rw [if_pos (by rw [HQL.out]; decide)])
            rw [HQL.out] at hcl_
            refine hcl_.mono ?_
            rintro e W_2 ⟨v_2, rfl, hr_, hb_⟩
            refine ⟨_, rfl, ?_⟩
            have HQ12 := Aside0.mk (Kd.R_lower hr_ HR11.out.sz)
            have HR12 := Aside0.mk (HR11.out.step (hb_.mono HR11.out.sz))
            clear hr_ hb_ hcl_ HR11
            obtain ⟨gc, cc, e_, hgc, hgl, hcs⟩ := Kd.R_form HQ12.out (by rw [HQL.out]; decide)
            rw [HQL.out] at e_
            subst e_
            clear hgc hgl hcs
            refine hK.out _ _ trivial (fun hHeld => ?_)
            clear hK K
            refine norm_ (a' := ?_) ?_ ?_
            rotate_left
            · show Act.put _ (some 60) _ = _
              simp only [Act.put, List.setIfInBounds_toArray, List.set_cons_zero, List.set_cons_succ, i64_w, i32_w]
              rfl
            refine pure_ (i := 12) (N := some 61) (v := ?_) (a' := ?_) #[true, true, true, true, true, true, true, true, true, true, true, true, true, false, false] rfl rfl (by kernel_rfl) (fun _ _ _ h => h) (Or.inl ⟨by rfl, ?_⟩) ?_ ?_
            rotate_left
            · intro w'
              go_simp
              with_reducible rfl
            rotate_left
            · simp only [Act.put, List.setIfInBounds_toArray, List.set_cons_zero, List.set_cons_succ, i64_w, i32_w]
              rfl
            refine one_ (i := 13) (N := some 13) #[true, true, true, true, true, true, true, true, true, true, true, true, true, true, false] rfl rfl (by kernel_rfl) (by decide) (fun K hK => ?_)
            refine box_step ?hg (N := 13) ?hd (cs := #[.int .i64 0, .slice none 0 0]) (t := 43) ?hr ?_; (case hd => rfl); (case hg => rfl); (case hr => go_simp; first | done | rfl)
            intro gp hg_ W_3 hbox_ hb_
            have HM : Aside0 (M ≤ gp) := ⟨by rw [hg_]; exact HR12.out.sz⟩
            have HP13 : Aside0 (X.Blk W_3 gp #[.int .i64 0, .slice none 0 0] 43) := ⟨hbox_⟩
            have HR13 := Aside0.mk (HR12.out.step (hb_.mono HR12.out.sz))
            have HQ13 := Aside0.mk (Kd.R_below HQ12.out hb_)
            clear hbox_ hb_ hg_ HR12 HQ12
            refine hK.out _ _ trivial (fun hHeld => ?_)
            clear hK K
            refine norm_ (a' := ?_) ?_ ?_
            rotate_left
            · show Act.put _ (some 13) _ = _
              simp only [Act.put, List.setIfInBounds_toArray, List.set_cons_zero, List.set_cons_succ, i64_w, i32_w]
              rfl
            exact norm_ (by simp only [putAll, Act.put, List.setIfInBounds_toArray, List.set_cons_zero, List.set_cons_succ]) (hCont (gc, cc, gp) _ ⟨HR13.out, HQ13.out, HP13.out, HM.out, trivial⟩)
          · skip
            refine box_step ?hg (N := 13) ?hd (cs := #[.int .i64 0, .slice none 0 0]) (t := 43) ?hr ?_; (case hd => rfl); (case hg => rfl); (case hr => go_simp; first | done | rfl)
            intro gp hg_ W_4 hbox_ hb_
            have HM : Aside0 (M ≤ gp) := ⟨by rw [hg_]; exact HR11.out.sz⟩
            have HP14 : Aside0 (X.Blk W_4 gp #[.int .i64 0, .slice none 0 0] 43) := ⟨hbox_⟩
            have HR14 := Aside0.mk (HR11.out.step (hb_.mono HR11.out.sz))
            clear hbox_ hb_ hg_ HR11
            refine hK.out _ _ trivial (fun hHeld => ?_)
            clear hK K
            refine norm_ (a' := ?_) ?_ ?_
            rotate_left
            · show Act.put _ (some 13) _ = _
              simp only [Act.put, List.setIfInBounds_toArray, List.set_cons_zero, List.set_cons_succ, i64_w, i32_w]
              rfl
            refine one_ (i := 11) (N := some 60) #[true, true, true, true, true, true, true, true, true, true, true, true, false, true, false] rfl rfl (by kernel_rfl) (by decide) (fun K hK => ?_)
            refine goes_ Try.func32 (by kernel_rfl) rfl #[.slice A' 256 (c0 - 256 * (i + 1))] (by rfl) rfl rfl (by (try simp only [List.map_toArray, List.map_cons, List.map_nil]); first | done | rfl) ?_
            have hcl_ := bytes_Clone.calls A' (c0 - 256 * (i + 1)) q q W_4 (by rw [HQL.out]; exact HQC.out _ (Kd.C_below HC.out HR14.out.di.below)) (by rw [HQL.out]; exact hcl) (by unfold bytes_Clone.f; rw [if_pos (by rw [HQL.out]; decide)])
            rw [HQL.out] at hcl_
            refine hcl_.mono ?_
            rintro e W_5 ⟨v_5, rfl, hr_, hb_⟩
            refine ⟨_, rfl, ?_⟩
            have HQ15 := Aside0.mk (Kd.R_lower hr_ HR14.out.sz)
            have HR15 := Aside0.mk (HR14.out.step (hb_.mono HR14.out.sz))
            have HP15 := Aside0.mk (HP14.out.below hb_ HP14.out.lt)
            clear hr_ hb_ hcl_ HR14 HP14
            obtain ⟨gc, cc, e_, hgc, hgl, hcs⟩ := Kd.R_form HQ15.out (by rw [HQL.out]; decide)
            rw [HQL.out] at e_
            subst e_
            clear hgc hgl hcs
            refine hK.out _ _ trivial (fun hHeld => ?_)
            clear hK K
            refine norm_ (a' := ?_) ?_ ?_
            rotate_left
            · show Act.put _ (some 60) _ = _
              simp only [Act.put, List.setIfInBounds_toArray, List.set_cons_zero, List.set_cons_succ, i64_w, i32_w]
              rfl
            refine pure_ (i := 12) (N := some 61) (v := ?_) (a' := ?_) #[true, true, true, true, true, true, true, true, true, true, true, true, true, true, false] rfl rfl (by kernel_rfl) (fun _ _ _ h => h) (Or.inl ⟨by rfl, ?_⟩) ?_ ?_
            rotate_left
            · intro w'
              go_simp
              with_reducible rfl
            rotate_left
            · simp only [Act.put, List.setIfInBounds_toArray, List.set_cons_zero, List.set_cons_succ, i64_w, i32_w]
              rfl
            exact norm_ (by simp only [putAll, Act.put, List.setIfInBounds_toArray, List.set_cons_zero, List.set_cons_succ]) (hCont (gc, cc, gp) _ ⟨HR15.out, HQ15.out, HP15.out, HM.out, trivial⟩)
        · skip
          refine box_step ?hg (N := 13) ?hd (cs := #[.int .i64 0, .slice none 0 0]) (t := 43) ?hr ?_; (case hd => rfl); (case hg => rfl); (case hr => go_simp; first | done | rfl)
          intro gp hg_ W_6 hbox_ hb_
          have HM : Aside0 (M ≤ gp) := ⟨by rw [hg_]; exact HR1.out.sz⟩
          have HP16 : Aside0 (X.Blk W_6 gp #[.int .i64 0, .slice none 0 0] 43) := ⟨hbox_⟩
          have HR16 := Aside0.mk (HR1.out.step (hb_.mono HR1.out.sz))
          clear hbox_ hb_ hg_ HR1
          refine hK.out _ _ trivial (fun hHeld => ?_)
          clear hK K
          refine norm_ (a' := ?_) ?_ ?_
          rotate_left
          · show Act.put _ (some 13) _ = _
            simp only [Act.put, List.setIfInBounds_toArray, List.set_cons_zero, List.set_cons_succ, i64_w, i32_w]
            rfl
          refine one_ (i := 1) (N := some 50) #[true, true, false, true, true, true, true, true, true, true, true, false, false, true, false] rfl rfl (by kernel_rfl) (by decide) (fun K hK => ?_)
          refine goes_ Try.func31 (by kernel_rfl) rfl #[.pointer (some ⟨w.heap.size + 1, 0, none⟩), .int .i64 4] (by rfl) rfl rfl (by (try simp only [List.map_toArray, List.map_cons, List.map_nil]); first | done | rfl) ?_
          refine (record_get.calls (w.heap.size + 1) A0 c0 l0 (20 + 4 * i) 4 _ (Kd.C_below HC.out HR16.out.di.below) HCC.out HU.out HR16.out.di.pg (by decide) (by omega) (by omega)).mono ?_
          rintro e w_7 ⟨rfl, m_7, rfl⟩
          refine ⟨_, rfl, ?_⟩
          rw [← HWL.out]
          have HR17 := Aside0.mk (HR16.out.got m_7 (20 + 4 * i + 4))
          have HP17 := Aside0.mk (blkAway (HP16.out.below (pw_below_drewN (Below.refl _ _) m_7) HP16.out.lt) (g' := w.heap.size + 1) (by have := HM.out; have := HR16.out.lo; have := HR16.out.gl; omega) 1 (.int .i64 ((20 + 4 * i + 4 : Nat) : Int)))
          rw [show 20 + 4 * i + 4 = 20 + 4 * (i + 1) from by omega] at *
          generalize (World.drewN _ m_7).setCell ⟨w.heap.size + 1, 1, none⟩ _ = W_7 at *
          clear HR16 HP16
          refine hK.out _ _ trivial (fun hHeld => ?_)
          clear hK K
          refine norm_ (a' := ?_) ?_ ?_
          rotate_left
          · show Act.put _ (some 50) _ = _
            simp only [Act.put, List.setIfInBounds_toArray, List.set_cons_zero, List.set_cons_succ, i64_w, i32_w]
            rfl
          refine pure_ (i := 2) (N := some 51) (v := ?_) (a' := ?_) #[true, true, true, true, true, true, true, true, true, true, true, false, false, true, false] rfl rfl (by kernel_rfl) (fun _ _ _ h => h) (Or.inl ⟨by rfl, ?_⟩) ?_ ?_
          rotate_left
          · intro w'
            go_simp
            with_reducible rfl
          rotate_left
          · simp only [Act.put, List.setIfInBounds_toArray, List.set_cons_zero, List.set_cons_succ, i64_w, i32_w]
            rfl
          refine one_ (i := 11) (N := some 60) #[true, true, true, true, true, true, true, true, true, true, true, true, false, true, false] rfl rfl (by kernel_rfl) (by decide) (fun K hK => ?_)
          refine goes_ Try.func32 (by kernel_rfl) rfl #[.slice A' 256 (c0 - 256 * (i + 1))] (by rfl) rfl rfl (by (try simp only [List.map_toArray, List.map_cons, List.map_nil]); first | done | rfl) ?_
          have hcl_ := bytes_Clone.calls A' (c0 - 256 * (i + 1)) q q W_7 (by rw [HQL.out]; exact HQC.out _ (Kd.C_below HC.out HR17.out.di.below)) (by rw [HQL.out]; exact hcl) (by unfold bytes_Clone.f; rw [if_pos (by rw [HQL.out]; decide)])
          rw [HQL.out] at hcl_
          refine hcl_.mono ?_
          rintro e W_8 ⟨v_8, rfl, hr_, hb_⟩
          refine ⟨_, rfl, ?_⟩
          have HQ18 := Aside0.mk (Kd.R_lower hr_ HR17.out.sz)
          have HR18 := Aside0.mk (HR17.out.step (hb_.mono HR17.out.sz))
          have HP18 := Aside0.mk (HP17.out.below hb_ HP17.out.lt)
          clear hr_ hb_ hcl_ HR17 HP17
          obtain ⟨gc, cc, e_, hgc, hgl, hcs⟩ := Kd.R_form HQ18.out (by rw [HQL.out]; decide)
          rw [HQL.out] at e_
          subst e_
          clear hgc hgl hcs
          refine hK.out _ _ trivial (fun hHeld => ?_)
          clear hK K
          refine norm_ (a' := ?_) ?_ ?_
          rotate_left
          · show Act.put _ (some 60) _ = _
            simp only [Act.put, List.setIfInBounds_toArray, List.set_cons_zero, List.set_cons_succ, i64_w, i32_w]
            rfl
          refine pure_ (i := 12) (N := some 61) (v := ?_) (a' := ?_) #[true, true, true, true, true, true, true, true, true, true, true, true, true, true, false] rfl rfl (by kernel_rfl) (fun _ _ _ h => h) (Or.inl ⟨by rfl, ?_⟩) ?_ ?_
          rotate_left
          · intro w'
            go_simp
            with_reducible rfl
          rotate_left
          · simp only [Act.put, List.setIfInBounds_toArray, List.set_cons_zero, List.set_cons_succ, i64_w, i32_w]
            rfl
          exact norm_ (by simp only [putAll, Act.put, List.setIfInBounds_toArray, List.set_cons_zero, List.set_cons_succ]) (hCont (gc, cc, gp) _ ⟨HR18.out, HQ18.out, HP18.out, HM.out, trivial⟩)
      rintro ⟨gc, cc, gp⟩ W0 ⟨hr_, hq_, hp_, hm_, -⟩
      have HR2 := Aside0.mk hr_
      have HQ2 := Aside0.mk hq_
      have HP2 := Aside0.mk hp_
      have HM := Aside0.mk hm_
      have hHeld : True := trivial
      clear HR1 hr_ hq_ hp_ hm_
      refine norm_ (a' := ?_) ?_ ?_
      rotate_left
      · simp only [putAll, Act.put, List.setIfInBounds_toArray, List.set_cons_zero, List.set_cons_succ]
        rfl
      refine one_ (i := 14) (N := none) #[true, true, true, true, true, true, true, true, true, true, true, true, true, true, true] rfl rfl (by kernel_rfl) (by decide) (fun K hK => ?_)
      have c0_ := HP2.out.cell 0 _ rfl
      have c1_ := HP2.out.cell 1 _ rfl
      have f0_ := HP2.out.free 0
      have f1_ := HP2.out.free 1
      refine skip_ (w1 := ?_) (by rfl) rfl ?_ ?_
      rotate_left
      · go_simp
        rfl
      refine hK.out _ _ trivial (fun hHeld => ?_)
      clear hK K c0_ c1_ f0_ f1_
      have HR3 := Aside0.mk ((HR2.out.far HM.out 0 (.int .i64 (wd : Int))).far HM.out 1 (.slice (some ⟨gc, 0, none⟩) 256 cc))
      have HP3 : Aside0 (X.Blk ((W0.setCell ⟨gp, 0, none⟩ (.int .i64 (wd : Int))).setCell ⟨gp, 1, none⟩ (.slice (some ⟨gc, 0, none⟩) 256 cc)) gp #[.int .i64 (wd : Int), .slice (some ⟨gc, 0, none⟩) 256 cc] 43) := ⟨(HP2.out.set 0 (.int .i64 (wd : Int))).set 1 (.slice (some ⟨gc, 0, none⟩) 256 cc)⟩
      have HQ3 := Aside0.mk (Kd.R_mono (Kd.R_far (p := ⟨gp, 1, none⟩) (Kd.R_far (p := ⟨gp, 0, none⟩) (Kd.R_types HQ2.out HP2.out (by decide)) (fun _ hk => hk.2) (.int .i64 (wd : Int))) (fun _ hk => hk.2) (.slice (some ⟨gc, 0, none⟩) 256 cc)) (fun _ hk => (trivial : True)))
      generalize (W0.setCell ⟨gp, 0, none⟩ (.int .i64 (wd : Int))).setCell ⟨gp, 1, none⟩ (.slice (some ⟨gc, 0, none⟩) 256 cc) = W1 at *
      clear HR2 HP2 HQ2
      refine done_ (by kernel_rfl) ?_
      clear hHeld
      have c0_ := HP3.out.cell 0 _ rfl
      have c1_ := HP3.out.cell 1 _ rfl
      have f0_ := HP3.out.free 0
      have ha := and_mask hwl
      by_cases h31 : 2147483648 ≤ wd
      · rw [if_pos h31] at ha
        have HDW' := HDW.out
        rw [if_pos h31] at HDW'
        have HD := Aside0.mk HDW'
        have hn := andNot_mask hwl h31
        have HDL : Aside0 ((markL ++ q.drop 4).length = 256) := ⟨by rw [List.length_append, List.length_drop, HQL.out]; rfl⟩
        clear HDW HDW' h31 hwl hw5
        go_wp2_with (first | ((with_reducible refine gate_builtin (b := .append) (xs := #[.tmp 74, .tmp 76]) rfl ?_); at_builtin; refine Kd.S_append k43 (w0 := w) w.heap.size rfl (.tmp 74) (.tmp 76) 23 43 (.agg #[(.int .i64 0), (.slice none 0 0)]) 32 rfl Try.underlying23 info43 rfl (by decide) (by omega) v (decWs l0 i) (⟨(wd : Int) - 2147483648, markL ++ q.drop 4⟩ : S43) [.int .i64 ((wd : Int) - 2147483648), .slice (some ⟨gc, 0, none⟩) 256 cc] (fun _ => True) (fun k => M ≤ k) rfl (by first | (go_simp; done) | (go_simp; rfl)) (k43_mkM _ _ _ (⟨(wd : Int) - 2147483648, markL ++ q.drop 4⟩ : S43) (Kd.R_lower (Kd.R_mono (Kd.R_bound HQz.out) (fun k hk => hk.2.1)) (by have := HG.out; have := HRz.out.gl; omega))) (fun k hk => ⟨trivial, fun e => by have := HVL.out k e.symm; omega⟩) (fun _ _ => trivial) (Kd.S_mono HRz.out.ss (fun k hk => ⟨trivial, by have := hk.2; omega⟩)) HRz.out.di.below HRz.out.di.below.size (by rw [decWs_length]; have := HN58.out; omega) ?_; intro v1 w9 ho_ hb_ hg_ hat_; rw [← HD.out, ← decWs_succ] at ho_; have HE := Aside0.mk (HRz.out.end_ hg_ hb_ ho_); obtain ⟨Av, cv, ev_⟩ := Kd.R_slice (Kd.S_R ho_); subst ev_; have f1_ := HE.out.1.free 1; have d1_ := HE.out.1.cell 1 v rfl; clear ho_ hb_ hg_ hat_ HRz HQz HPz c0_ c1_ c2_) | ((refine X.copyS_at (P := Try.prog) (w0 := W1) M rfl _ _ 29 9 5 rfl Try.underlying29 (by obtain ⟨i, hi, _, hs, _⟩ := info_parts info5; rw [hi]; exact congrArg some hs) gc 256 cc 0 256 cc { data := #[85, 76, 79, 71] } q (fun _ => True) rfl rfl (Kd.R_mono (Kd.R_far (p := ⟨gp, 0, none⟩) (Kd.R_types HQ3.out HP3.out (by decide)) (fun _ hk => hk.2) (.int .i64 ((wd : Int) - 2147483648))) (fun _ hk => (trivial : True))) (by decide) (by decide) ((Below.refl M W1).setCell (p := ⟨gp, 0, none⟩) HM.out _) (by have := HR3.out.sz; simpa using this) ?_); intro w7 hr7 hb7 hg7; rw [lay_mark HQL.out] at hr7; have HQz := Aside0.mk hr7; have HRz := Aside0.mk (HR3.out.step hb7); have HPz : Aside0 (X.Blk w7 gp #[.int .i64 ((wd : Int) - 2147483648), .slice (some ⟨gc, 0, none⟩) 256 cc] 43) := ⟨(hg7.block gp (by have := HP3.out.lt; simpa using this) (by have := Kd.R_ne HQ3.out HP3.out (by decide); simpa [Value.ownBlock] using this)).trans (HP3.out.set 0 (.int .i64 ((wd : Int) - 2147483648)))⟩; clear hr7 hb7 hg7 HR3 HQ3 HP3 c0_ c1_ f0_ ha hn; have c0_ := HPz.out.cell 0 _ rfl; have c1_ := HPz.out.cell 1 _ rfl; have c2_ := HRz.out.tb.cell 1 v rfl))
        cases gk with
        | zero => exact absurd HK.out (by omega)
        | succ k1 =>
          go_roundg k1
          case measure => omega
          case rel => exact ⟨i + 1, _, by go_num, ⟨by have := HK.out; omega⟩, ⟨HE.out.2.1⟩, ⟨HE.out.2.2.1⟩, ⟨HE.out.2.2.2⟩⟩
      · rw [if_neg h31] at ha
        have HDW' := HDW.out
        rw [if_neg h31] at HDW'
        have HD := Aside0.mk HDW'
        have HDL := HQL
        have HQz := HQ3
        have HRz := HR3
        have HPz := HP3
        clear HDW HDW' h31 hwl hw5 HQ3 HR3 HP3
        have c0_ := HPz.out.cell 0 _ rfl
        have c1_ := HPz.out.cell 1 _ rfl
        have c2_ := HRz.out.tb.cell 1 v rfl
        go_wp2_with ((with_reducible refine gate_builtin (b := .append) (xs := #[.tmp 74, .tmp 76]) rfl ?_); at_builtin; refine Kd.S_append k43 (w0 := w) w.heap.size rfl (.tmp 74) (.tmp 76) 23 43 (.agg #[(.int .i64 0), (.slice none 0 0)]) 32 rfl Try.underlying23 info43 rfl (by decide) (by omega) v (decWs l0 i) (⟨(wd : Int), q⟩ : S43) [.int .i64 ((wd : Int)), .slice (some ⟨gc, 0, none⟩) 256 cc] (fun _ => True) (fun k => M ≤ k) rfl (by first | (go_simp; done) | (go_simp; rfl)) (k43_mkM _ _ _ (⟨(wd : Int), q⟩ : S43) (Kd.R_lower (Kd.R_mono (Kd.R_bound HQz.out) (fun k hk => hk.2.1)) (by have := HG.out; have := HRz.out.gl; omega))) (fun k hk => ⟨trivial, fun e => by have := HVL.out k e.symm; omega⟩) (fun _ _ => trivial) (Kd.S_mono HRz.out.ss (fun k hk => ⟨trivial, by have := hk.2; omega⟩)) HRz.out.di.below HRz.out.di.below.size (by rw [decWs_length]; have := HN58.out; omega) ?_; intro v1 w9 ho_ hb_ hg_ hat_; rw [← HD.out, ← decWs_succ] at ho_; have HE := Aside0.mk (HRz.out.end_ hg_ hb_ ho_); obtain ⟨Av, cv, ev_⟩ := Kd.R_slice (Kd.S_R ho_); subst ev_; have f1_ := HE.out.1.free 1; have d1_ := HE.out.1.cell 1 v rfl; clear ho_ hb_ hg_ hat_ HRz HQz HPz c0_ c1_ c2_)
        cases gk with
        | zero => exact absurd HK.out (by omega)
        | succ k1 =>
          go_roundg k1
          case measure => omega
          case rel => exact ⟨i + 1, _, by go_num, ⟨by have := HK.out; omega⟩, ⟨HE.out.2.1⟩, ⟨HE.out.2.2.1⟩, ⟨HE.out.2.2.2⟩⟩
    · have q0 : decide ((i : Int) < (n : Int)) = false := decide_eq_false (by have := HK.out; omega)
      have q00 : decide (i < n) = false := decide_eq_false hlt
      obtain rfl : i = n := by have := HK.out; omega
      clear HK hlt
      obtain ⟨Av, cv, ev_⟩ := Kd.R_slice (Kd.S_R HS.out)
      subst ev_
      go_wp2_with fail
      go_loopg [81] r (fun kq v81 w' => ∃ (j : Nat) (u : Value), v81 = .int .i64 (j : Int) ∧ Aside0 (kq + j = r) ∧ Aside0 (DecQ w w' A0 c0 l0 (20 + 4 * (i + j)) gt [.int .u64 a1, .slice Av (decWs l0 i).length cv, u] (.slice Av (decWs l0 i).length cv) (decWs l0 i) u (decRs l0 i j)))
      case atStart => exact ⟨0, _, rfl, ⟨by omega⟩, ⟨⟨HI.out, HT.out, HS.out, Kd.R_nil _ _ _ _ _, HG.out⟩⟩⟩
      case round =>
        clear HI HT HS
        obtain ⟨j, u, rfl, HK, HQ⟩ := hrel
        by_cases hlt : j < r
        · have q0 : decide ((j : Int) < (r : Int)) = true := decide_eq_true (by omega)
          have q00 : decide (j < r) = true := decide_eq_true hlt
          have h58 := HN58.out
          have h256 := HN.out
          have hwl := wordL_lt HU.out (i := i + j) (by omega)
          have HWL : Aside0 (wordL l0 (i + j) = numL (cutL l0 (20 + 4 * (i + j)) 4)) := ⟨rfl⟩
          have HRS := Aside0.mk (decRs_succ l0 i j)
          have HRL := Aside0.mk (decRs_length l0 i j)
          obtain ⟨wd, hwd⟩ : ∃ wd, wd = wordL l0 (i + j) := ⟨_, rfl⟩
          rw [← hwd] at HWL hwl HRS
          have hw5 : IntKind.i64.wrap (wd : Int) = (wd : Int) := IntWalk.i64_in _ (by omega)
          clear hwd hwl
          go_wp2_with fail
          have HQ1 := Aside0.mk (HQ.out.step (below_drew1 (Below.refl wr.heap.size wr)))
          refine start_ (n := 9) (S := (fun w' => w'.cell? ⟨gt, 2, none⟩ = some u)) (ds := [8]) #[false, false, false, false, false, false, false, false, false] (by kernel_rfl) rfl rfl (HQ1.out.tb.cell 2 u rfl) (fun hHeld => ?_)
          generalize wr.drew = w5 at *
          clear HQ
          refine pure_ (i := 0) (N := some 83) (v := ?_) (a' := ?_) #[true, false, false, false, false, false, false, false, false] rfl rfl (by kernel_rfl) (fun _ _ _ h => h) (Or.inl ⟨by rfl, ?_⟩) ?_ ?_
          rotate_left
          · intro w'
            go_simp
            with_reducible rfl
          rotate_left
          · simp only [Act.put, List.setIfInBounds_toArray, List.set_cons_zero, List.set_cons_succ, i64_w, i32_w]
            rfl
          refine take_ (i := 1) (N := some 84) (v := ?_) (a' := ?_) #[true, true, false, false, false, false, false, false, false] rfl rfl (by kernel_rfl) (fun _ _ _ h => h) (Or.inl ⟨by rfl, ?_⟩) hHeld ?_ ?_
          rotate_left
          · intro w' hs_
            go_simp
            with_reducible rfl
          rotate_left
          · simp only [Act.put, List.setIfInBounds_toArray, List.set_cons_zero, List.set_cons_succ, i64_w, i32_w]
            rfl
          refine pure_ (i := 2) (N := some 85) (v := ?_) (a' := ?_) #[true, true, true, false, false, false, false, false, false] rfl rfl (by kernel_rfl) (fun _ _ _ h => h) (Or.inl ⟨by rfl, ?_⟩) ?_ ?_
          rotate_left
          · intro w'
            go_simp
            with_reducible rfl
          rotate_left
          · simp only [Act.put, List.setIfInBounds_toArray, List.set_cons_zero, List.set_cons_succ, i64_w, i32_w]
            rfl
          refine one_ (i := 3) (N := some 86) #[true, true, true, true, false, false, false, false, false] rfl rfl (by kernel_rfl) (by decide) (fun K hK => ?_)
          refine goes_ Try.func31 (by kernel_rfl) rfl #[.pointer (some ⟨w.heap.size + 1, 0, none⟩), .int .i64 4] (by rfl) rfl rfl (by (try simp only [List.map_toArray, List.map_cons, List.map_nil]); first | done | rfl) ?_
          refine (record_get.calls (w.heap.size + 1) A0 c0 l0 (20 + 4 * (i + j)) 4 _ (Kd.C_below HC.out HQ1.out.di.below) HCC.out HU.out HQ1.out.di.pg (by decide) (by omega) (by omega)).mono ?_
          rintro e w_ ⟨rfl, m_, rfl⟩
          refine ⟨_, rfl, ?_⟩
          rw [← HWL.out]
          have HQ2 := Aside0.mk (HQ1.out.got m_ (20 + 4 * (i + j) + 4))
          rw [show 20 + 4 * (i + j) + 4 = 20 + 4 * (i + (j + 1)) from by omega] at *
          generalize (World.drewN _ m_).setCell ⟨w.heap.size + 1, 1, none⟩ _ = w6 at *
          clear HQ1
          refine hK.out _ _ (HQ2.out.tb.cell 2 u rfl) (fun hHeld => ?_)
          clear hK K
          refine norm_ (a' := ?_) ?_ ?_
          rotate_left
          · show Act.put _ (some 86) _ = _
            simp only [Act.put, List.setIfInBounds_toArray, List.set_cons_zero, List.set_cons_succ, i64_w, i32_w]
            rfl
          refine pure_ (i := 4) (N := some 87) (v := ?_) (a' := ?_) #[true, true, true, true, true, false, false, false, false] rfl rfl (by kernel_rfl) (fun _ _ _ h => h) (Or.inl ⟨by rfl, ?_⟩) ?_ ?_
          rotate_left
          · intro w'
            go_simp
            with_reducible rfl
          rotate_left
          · simp only [Act.put, List.setIfInBounds_toArray, List.set_cons_zero, List.set_cons_succ, i64_w, i32_w]
            rfl
          refine one_ (i := 5) (N := some 88) #[true, true, true, true, true, true, false, false, false] rfl rfl (by kernel_rfl) (by decide) (fun K hK => ?_)
          refine value_ (w1 := ?_) (v := ?_) (by rfl) rfl ?_ ?_
          rotate_left 2
          · go_simp
            constructor
            · rfl
            · rfl
          refine hK.out _ _ ((HQ2.out.step (below_alloc (Below.refl _ _) _)).tb.cell 2 u rfl) (fun hHeld => ?_)
          clear hK K
          refine norm_ (a' := ?_) ?_ ?_
          rotate_left
          · show Act.put _ (some 88) _ = _
            simp only [Act.put, List.setIfInBounds_toArray, List.set_cons_zero, List.set_cons_succ, i64_w, i32_w]
            rfl
          refine one_ (i := 6) (N := some 89) #[true, true, true, true, true, true, true, false, false] rfl rfl (by kernel_rfl) (by decide) (fun K hK => ?_)
          refine Kd.R_append_step (Kd.int .i64) (w0 := w) w.heap.size (by rfl) (.tmp 84) (.tmp 88) 24 3 (.int .i64 0) 8 rfl Try.underlying24 info3 rfl (by decide) (by omega) u (decRs l0 i j) (wd : Int) [.int .i64 (wd : Int)] (fun _ => True) (fun _ => False) rfl rfl (by first | exact rfl | exact ⟨_, rfl, rfl⟩) (fun _ h => h.elim) (fun _ _ => trivial) HQ2.out.rr HQ2.out.di.below HQ2.out.di.below.size (by rw [HRL.out]; omega) ?_
          intro v1 w9 ho_ hb_ hg_ hat_
          rw [← HRS.out] at ho_
          have HE := Aside0.mk (HQ2.out.end_ hg_ hb_ ho_)
          obtain ⟨Au, cu, eu_⟩ := Kd.R_slice ho_
          subst eu_
          clear ho_ hb_ hg_ hat_
          have HL9 := Aside0.mk HQ2.out.lo
          clear HQ2
          refine hK.out _ _ (HE.out.1.cell 2 u rfl) (fun hHeld => ?_)
          clear hK K
          refine norm_ (a' := ?_) ?_ ?_
          rotate_left
          · show Act.put _ (some 89) _ = _
            simp only [Act.put, List.setIfInBounds_toArray, List.set_cons_zero, List.set_cons_succ, i64_w, i32_w]
            rfl
          refine pure_ (i := 7) (N := some 90) (v := ?_) (a' := ?_) #[true, true, true, true, true, true, true, true, false] rfl rfl (by kernel_rfl) (fun _ _ _ h => h) (Or.inl ⟨by rfl, ?_⟩) ?_ ?_
          rotate_left
          · intro w'
            go_simp
            with_reducible rfl
          rotate_left
          · simp only [Act.put, List.setIfInBounds_toArray, List.set_cons_zero, List.set_cons_succ, i64_w, i32_w]
            rfl
          refine last_ (i := 8) (N := none) #[true, true, true, true, true, true, true, true, true] rfl rfl (by kernel_rfl) (by decide) (fun K hK => ?_)
          have c2_ := HE.out.1.cell 2 u rfl
          have f2_ := HE.out.1.free 2
          refine skip_ (w1 := ?_) (by rfl) rfl ?_ ?_
          rotate_left
          · go_simp
            rfl
          refine hK.out _ _ ?_
          clear hK K c2_ f2_ hHeld
          refine done_ (by kernel_rfl) ?_
          go_wp2
          cases gk with
          | zero => exact absurd HK.out (by omega)
          | succ k1 =>
            go_roundg k1
            case measure => omega
            case rel => exact ⟨j + 1, _, by go_num, ⟨by have := HK.out; omega⟩, ⟨⟨HE.out.2.1, HE.out.2.2.1, HE.out.2.2.2.1, HE.out.2.2.2.2, HL9.out⟩⟩⟩
        · have q0 : decide ((j : Int) < (r : Int)) = false := decide_eq_false (by have := HK.out; omega)
          have q00 : decide (j < r) = false := decide_eq_false hlt
          obtain rfl : j = r := by have := HK.out; omega
          clear HK hlt
          obtain ⟨Au, cu, hcu, eu_, hCu⟩ : ∃ Au cu, (decRs l0 i j).length ≤ cu ∧ u = .slice Au (decRs l0 i j).length cu ∧ Kd.C (Kd.int .i64) wr Au (decRs l0 i j).length (decRs l0 i j) := by
            obtain ⟨A, c, h1, h2, h3⟩ := Kd.R_reads HQ.out.rr
            exact ⟨A, c, h2, h1, h3⟩
          subst eu_
          obtain ⟨-, hcv, hCv⟩ := Kd.S_reads' HQ.out.ss
          obtain ⟨p, hen, hf⟩ := Option.bind_eq_some_iff.1 HF.out
          obtain ⟨enc, st⟩ := p
          have HEN := record_Encode.calls a1 Av cv (decWs l0 i) Au cu (decRs l0 i j) enc st wr hCv hcv hCu hcu hen
          have HENA := Aside0.mk HEN
          have HFF := Aside0.mk hf
          clear hen hf HF HEN hCu hCv hcu hcv
          have c0_ := HQ.out.tb.cell 0 _ rfl
          have c1_ := HQ.out.tb.cell 1 _ rfl
          have c2_ := HQ.out.tb.cell 2 _ rfl
          go_wp2_with fail
          refine HENA.out.mono ?_
          rintro e w5 ⟨v0, rfl, hR, hB⟩
          have HQ5 := Aside0.mk (HQ.out.step hB)
          obtain ⟨Ae, ce, ee_, hce, hCe⟩ := Kd.R_reads hR
          subst ee_
          have HCE := Aside0.mk hCe
          clear hR hB HENA HQ c0_ c1_ c2_ hCe
          have r0_ := HQ5.out.di.res.cell 0 _ rfl
          have r1_ := HQ5.out.di.res.cell 1 _ rfl
          have r2_ := HQ5.out.di.res.cell 2 _ rfl
          have g0_ := HQ5.out.di.res.free 0
          have g1_ := HQ5.out.di.res.free 1
          have g2_ := HQ5.out.di.res.free 2
          by_cases hst : st = 0
          · subst hst
            have hf := HFF.out
            rw [if_pos rfl] at hf
            obtain ⟨b, hb, hf⟩ := Option.bind_eq_some_iff.1 hf
            have HHQ := Aside0.mk (bytes_HasPrefix.calls A0 c0 l0 Ae ce enc b w5 (Kd.C_below HC.out HQ5.out.di.below) HCC.out HCE.out hce hb)
            have HFG := Aside0.mk hf
            clear HFF hf hb
            go_wp2_with fail
            refine HHQ.out.mono ?_
            rintro e w6 ⟨rfl, hd⟩
            have HQ6 := Aside0.mk (HQ5.out.step hd.below)
            clear hd HHQ HQ5 r0_ r1_ r2_ g0_ g1_ g2_
            have r0_ := HQ6.out.di.res.cell 0 _ rfl
            have r1_ := HQ6.out.di.res.cell 1 _ rfl
            have r2_ := HQ6.out.di.res.cell 2 _ rfl
            have g0_ := HQ6.out.di.res.free 0
            have g1_ := HQ6.out.di.res.free 1
            have g2_ := HQ6.out.di.res.free 2
            cases b with
            | true =>
              obtain ⟨rfl, rfl, rfl, rfl, rfl⟩ : a1 = r1 ∧ decWs l0 i = r2 ∧ decRs l0 i j = r3 ∧ ((i + 2 : Nat) : Int) = r4 ∧ true = r5 := by simpa using HFG.out
              have c0_ := HQ6.out.tb.cell 0 _ rfl
              have c1_ := HQ6.out.tb.cell 1 _ rfl
              have c2_ := HQ6.out.tb.cell 2 _ rfl
              go_wp2
              have e2 : (i : Int) + 2 = ((i + 2 : Nat) : Int) := by omega
              refine bodyPost_ret (results_ctt (P := Try.prog) (fn := Try.f16) rfl _ _ w.heap.size 26 #[.int .u64 a1, .slice Av (decWs l0 i).length cv, .slice Au (decRs l0 i j).length cu] (0, 0) _ rfl (blk3 HQ6.out.di.res _ _ _) Try.underlying26 rfl (by kernel_rfl)) rfl ⟨.slice Av (decWs l0 i).length cv, .slice Au (decRs l0 i j).length cu, by rw [← e2]; rfl, ss3 HQ6.out.ss HQ6.out.di.res _ _ _, rr3 HQ6.out.rr HQ6.out.di.res _ _ _, below3 HQ6.out.di.below _ _ _⟩
            | false =>
              obtain ⟨rfl, rfl, rfl, rfl, rfl⟩ : 0 = r1 ∧ [] = r2 ∧ [] = r3 ∧ 0 = r4 ∧ false = r5 := by simpa [badT] using HFG.out
              go_wp2
              exact bodyPost_ret (results_ctt (P := Try.prog) (fn := Try.f16) rfl _ _ w.heap.size 26 #[.int .u64 0, .slice none 0 0, .slice none 0 0] (0, 0) _ rfl (blk3 HQ6.out.di.res _ _ _) Try.underlying26 rfl (by kernel_rfl)) rfl ⟨.slice none 0 0, .slice none 0 0, rfl, Kd.S_nil _ _ _ _ _, Kd.R_nil _ _ _ _ _, below3 HQ6.out.di.below _ _ _⟩
          · have hf := HFF.out
            rw [if_neg hst] at hf
            obtain ⟨rfl, rfl, rfl, rfl, rfl⟩ : 0 = r1 ∧ [] = r2 ∧ [] = r3 ∧ 0 = r4 ∧ false = r5 := by simpa [badT] using hf
            have s1 : decide (st = 0) = false := decide_eq_false hst
            clear HFF hf
            go_wp2
            exact bodyPost_ret (results_ctt (P := Try.prog) (fn := Try.f16) rfl _ _ w.heap.size 26 #[.int .u64 0, .slice none 0 0, .slice none 0 0] (0, 0) _ rfl (blk3 HQ5.out.di.res _ _ _) Try.underlying26 rfl (by kernel_rfl)) rfl ⟨.slice none 0 0, .slice none 0 0, rfl, Kd.S_nil _ _ _ _ _, Kd.R_nil _ _ _ _ _, below3 HQ5.out.di.below _ _ _⟩
end Go.Proofs.Ytpihpabofgmahaa.U
