/- Words of ours on a range over a function whose iterator keeps a number of its own in a box that the call laid: the loop's body is walked once, from whatever state the iterator is in. -/
import Derived.RangeFuncNested
import Derived.RangeFuncBound
import Derived.RangeFuncCalls
import Derived.RangeFuncLeaves
import Derived.Shelf.RegionOpen
import Derived.WalkKit
import Derived.OwnWalkIn
import Derived.TacticsInMore
import Derived.LoopNIn
import Derived.LoopIn
import Derived.Test.YtlhpejdbmbpmhaaXWords
namespace Go.Proofs.Ytlhpejdbmbpmhaa.X
open Go Go.RowKit

/-- Below B nothing has turned but the box Bf. -/
structure Same (B Bf : Nat) (W W' : World) : Prop where
  os : W'.os = W.os
  tape : W'.tape = W.tape
  output : W'.output = W.output
  size : W.heap.size ≤ W'.heap.size
  block : ∀ i, i < B → i ≠ Bf → W'.heap[i]? = W.heap[i]?
theorem Same.refl (B Bf : Nat) (W : World) : Same B Bf W W := ⟨rfl, rfl, rfl, Nat.le_refl _, fun _ _ _ => rfl⟩
theorem Same.trans {B Bf : Nat} {X Y Z : World} (h : Same B Bf X Y) (k : Same B Bf Y Z) : Same B Bf X Z :=
  ⟨k.os.trans h.os, k.tape.trans h.tape, k.output.trans h.output, Nat.le_trans h.size k.size, fun i hi hn => (k.block i hi hn).trans (h.block i hi hn)⟩
theorem Same.mono {B B' Bf : Nat} {X Y : World} (h : Same B Bf X Y) (hB : B' ≤ B) : Same B' Bf X Y := ⟨h.os, h.tape, h.output, h.size, fun i hi hn => h.block i (Nat.lt_of_lt_of_le hi hB) hn⟩
theorem Same.alloc (B Bf : Nat) (W : World) (o : Obj) (hB : B ≤ W.heap.size) : Same B Bf W (W.alloc o) :=
  ⟨rfl, rfl, rfl, by simp, fun i hi _ => by show (W.heap.push o)[i]? = _; rw [Array.getElem?_push, if_neg (by omega)]⟩
theorem Same.putObj (B Bf : Nat) (W : World) (l : Nat) (o : Obj) (hB : B ≤ l) : Same B Bf W (W.putObj l o) :=
  ⟨rfl, rfl, rfl, by simp, fun i hi _ => World.putObj_heap_other (by omega)⟩
theorem Same.drewN (B Bf : Nat) (W : World) (k : Nat) : Same B Bf W (W.drewN k) := ⟨rfl, rfl, rfl, Nat.le_refl _, fun _ _ _ => rfl⟩
theorem Same.drew (B Bf : Nat) (W : World) : Same B Bf W W.drew := ⟨rfl, rfl, rfl, Nat.le_refl _, fun _ _ _ => rfl⟩
theorem Same.setCell (B Bf : Nat) (W : World) (i : Nat) (v : Value) : Same B Bf W (W.setCell ⟨Bf, i, none⟩ v) :=
  ⟨rfl, rfl, rfl, by simp, fun j _ hj => by show (W.heap.modify Bf _)[j]? = _; rw [Array.getElem?_modify]; simp [Ne.symm hj]⟩
theorem Same.below {B Bf B0 : Nat} {w W W' : World} (h : Same B Bf W W') (hb : Below B0 w W) (h0 : B0 ≤ B) (h1 : B0 ≤ Bf) : Below B0 w W' :=
  ⟨h.os.trans hb.os, h.tape.trans hb.tape, h.output.trans hb.output, Nat.le_trans hb.size h.size, fun k hk => (h.block k (by omega) (by omega)).trans (hb.block k hk)⟩

/-- How the body of a round may be left. -/
def boxPost (B : Nat) (kp : Nat → Prop) (I : World → Prop) (Ix : Code → World → Prop) (W : World) : Exit → Act → World → Prop
  | .normal, _, W' => KeepsFrom B W W' ∧ (∀ b, kp b → W'.heap[b]? = W.heap[b]?) ∧ I W'
  | .ret, _, W' => KeepsFrom B W W' ∧ (∀ b, kp b → W'.heap[b]? = W.heap[b]?) ∧ Ix .ret W'
  | .exit id, _, W' => KeepsFrom B W W' ∧ (∀ b, kp b → W'.heap[b]? = W.heap[b]?) ∧ Ix (.exit id) W'
  | .goto t, _, W' => KeepsFrom B W W' ∧ (∀ b, kp b → W'.heap[b]? = W.heap[b]?) ∧ Ix (.goto t) W'
  | .panic _, _, _ => False
  | .outgrown, _, _ => False
variable {F : Fence} {n : Nat} {P : Program}
/-- What an iterator over states s0, nxt s0, .. owes: whatever J the rounds keep (but for the iterator's own box) it keeps. -/
def BoxSeq (F : Fence) (n : Nat) (P : Program) (gf : Nat) (lb : Array Value) {σ : Type} (encs : σ → Array Value) (nxt : σ → σ) (ok S : σ → Prop) (s0 : σ) (Bf : Nat) (kp : Nat → Prop) (w0 : World) : Prop :=
  ∀ (l : Nat) (J : σ → World → Prop) (Jx : World → Prop) (W : World), (∀ s X Y, J s X → Same X.heap.size Bf X Y → J s Y) → (∀ X Y, Jx X → Same X.heap.size Bf X Y → Jx Y) →
    (∀ s X, ok s → J s X → YieldAt F (n - 1) P l (encs s) X fun e X' => (e = .returned (.bool true) ∧ (∀ b, kp b → X'.heap[b]? = X.heap[b]?) ∧ J (nxt s) X') ∨ (e = .returned (.bool false) ∧ (∀ b, kp b → X'.heap[b]? = X.heap[b]?) ∧ Jx X')) →
    J s0 W → (∀ b, kp b → W.heap[b]? = w0.heap[b]?) →
    CallsIn F n P gf (#[.func (.yield l) #[] #[]] ++ lb) W fun e W' => (∃ v, e = .returned v) ∧ ((∃ s, S s ∧ J s W') ∨ Jx W')
theorem wpIn_range_box {g : Operand} {ps : Array Tmp} {assign body : Code} {Q : Exit → Act → World → Prop} {a : Act} {w : World} (hro : F.round = none) (h1 : 1 ≤ n) {gf : Nat} {lb : Array Value} (hg : a.eval g = .func (.func gf) #[] lb) (hFg : F.fn gf)
    (eg : ∀ args w, (callFunc gf args).run P w = .ok (.enter gf args) w) {σ : Type} {encs : σ → Array Value} {nxt : σ → σ} {ok S : σ → Prop} {s0 : σ} {Bf : Nat} {kp : Nat → Prop} (hseq : BoxSeq F (n - 1) P gf lb encs nxt ok S s0 Bf kp w)
    (hBf : Bf < w.heap.size) (hkp : ∀ b, kp b → b < w.heap.size) (hps : ∀ s, (encs s).size = ps.size)
    (I : σ → World → Prop) (Ix : Code → World → Prop) (hI : ∀ s X Y, I s X → Same w.heap.size Bf X Y → I s Y) (hIx : ∀ c X Y, Ix c X → Same w.heap.size Bf X Y → Ix c Y) (h0 : I s0 w) (a₁ : σ → Act)
    (hassign : ∀ (l : Nat) (s : σ) (W : World) (K : Act → World → Prop), K (a₁ s) W → assign.wpIn (F.inRound l) (n - 1 - 1) P (Exit.then K (fun _ _ _ => False)) { tmps := (ps.zip (encs s)).foldl (fun t (p, v) => t.setIfInBounds p v) a.tmps, defers := [] } W)
    (hbody : ∀ (l : Nat) (s : σ) (W : World), ok s → I s W → body.wpIn (F.inRound l) (n - 1 - 1) P (boxPost w.heap.size kp (I (nxt s)) Ix W) (a₁ s) W)
    (hdone : ∀ (D : Nat) (s : σ) (W : World), w.heap.size ≤ D → S s → I s W → W.heap[D]? = some (.deferred (some [])) → Q .normal { a with defers := { target := .collected D, args := #[] } :: a.defers } W)
    (hstop : ∀ (D : Nat) (c : Code) (W : World), w.heap.size ≤ D → Ix c W → W.heap[D]? = some (.deferred (some [])) → c.wpIn F n P Q { a with defers := { target := .collected D, args := #[] } :: a.defers } W) :
    (Code.rangeFunc g ps assign body).wpIn F n P Q a w := by
  refine wpIn_rangeFunc ?_
  intro fn hfn
  rw [hro]
  obtain ⟨rec, hrec⟩ : ∃ rec : LoopState → Option Code → Loop, rec = fun st pe => { state := st, pending := pe, fn, tmps := a.tmps, params := ps, assign, body, defers := w.heap.size } := ⟨_, rfl⟩
  obtain ⟨W1, hW1⟩ : ∃ W1, (w.alloc (.deferred (some []))).alloc (.loop (rec .ready none)) = W1 := ⟨_, rfl⟩
  have hS1 : Same w.heap.size Bf w W1 := by
    rw [← hW1]
    exact (Same.alloc _ _ _ _ (Nat.le_refl _)).trans (Same.alloc _ _ _ _ (by simp))
  have hL1 : W1.heap[w.heap.size + 1]? = some (.loop (rec .ready none)) := by
    rw [← hW1]
    have := World.alloc_heap_new (w.alloc (.deferred (some []))) (.loop (rec .ready none))
    rwa [World.size_alloc] at this
  have hK1 : W1.heap[w.heap.size]? = some (.deferred (some [])) := by
    rw [← hW1]
    exact ((Same.alloc (w.heap.size + 1) (w.heap.size + 1) (w.alloc (.deferred (some []))) _ (by simp)).block _ (by omega) (by omega)).trans (World.alloc_heap_new w _)
  have hkeep : ∀ b, kp b → W1.heap[b]? = w.heap[b]? := by
    intro b hb
    rw [← hW1]
    have hlt := hkp b hb
    exact ((Same.alloc (w.heap.size + 1) (w.heap.size + 2) (w.alloc (.deferred (some []))) _ (by simp)).block b (by omega) (by omega)).trans ((Same.alloc w.heap.size (w.heap.size + 2) w _ (Nat.le_refl _)).block b hlt (by omega))
  refine ⟨w.heap.size + 1, [{ target := .collected w.heap.size, args := #[] }], W1, { target := .fn (.func gf) lb, args := #[.func (.yield (w.heap.size + 1)) #[] #[]] }, W1, gf, #[.func (.yield (w.heap.size + 1)) #[] #[]] ++ lb, W1, ?_, ?_, ?_, ?_, fun _ => h1, ?_⟩
  · rw [← hW1, hrec]; exact run_enterLoop_outer _ _ _ _ _
  · simp only [resolve, hg]
    simp [go_sem]
  · intro f' hf'; simp [Target.leads] at hf'; subst hf'; exact hFg
  · simp [invoke, go_sem, eg]
  have hmono : ∀ {X Y : World}, w.heap.size + 1 < X.heap.size → Same X.heap.size Bf X Y → Same w.heap.size Bf X Y := fun hx h => h.mono (by omega)
  refine (hseq (w.heap.size + 1)
    (fun s X => I s X ∧ X.heap[w.heap.size + 1]? = some (.loop (rec .ready none)) ∧ X.heap[w.heap.size]? = some (.deferred (some [])))
    (fun X => ∃ c, Ix c X ∧ X.heap[w.heap.size + 1]? = some (.loop (rec .done (some c))) ∧ X.heap[w.heap.size]? = some (.deferred (some [])))
    W1 ?_ ?_ ?_ ⟨hI _ _ _ h0 hS1, hL1, hK1⟩ hkeep).mono ?_
  · rintro s X Y ⟨hi, hl, hk⟩ hs
    have hlt := (Array.getElem?_eq_some_iff.1 hl).1
    exact ⟨hI _ _ _ hi (hmono hlt hs), (hs.block _ hlt (by omega)).trans hl, (hs.block _ (by omega) (by omega)).trans hk⟩
  · rintro X Y ⟨c, hi, hl, hk⟩ hs
    have hlt := (Array.getElem?_eq_some_iff.1 hl).1
    exact ⟨c, hIx _ _ _ hi (hmono hlt hs), (hs.block _ hlt (by omega)).trans hl, (hs.block _ (by omega) (by omega)).trans hk⟩
  · rintro s X hok ⟨hi, hl, hk⟩
    have hlt := (Array.getElem?_eq_some_iff.1 hl).1
    have hy := run_yield (P := P) (args := encs s) hl (by rw [hrec]; exact hps s)
    rw [hrec] at hy
    refine ⟨fn, _, assign, body, hy, roundIn_of_wpIn hfn (hassign _ s X _ ?_)⟩
    refine ⟨_, run_beginRound hl (by rw [hrec]), ?_⟩
    have hsX := Same.putObj w.heap.size Bf X (w.heap.size + 1) (.loop { rec .ready none with state := .busy }) (by omega)
    have hl2 : (X.putObj (w.heap.size + 1) (.loop { rec .ready none with state := .busy })).heap[w.heap.size + 1]? = some (.loop { rec .ready none with state := .busy }) := World.putObj_heap_same hlt
    have hk2 : (X.putObj (w.heap.size + 1) (.loop { rec .ready none with state := .busy })).heap[w.heap.size]? = some (.deferred (some [])) := (World.putObj_heap_other (by omega)).trans hk
    have hq2 : ∀ b, kp b → (X.putObj (w.heap.size + 1) (.loop { rec .ready none with state := .busy })).heap[b]? = X.heap[b]? := fun b hb => World.putObj_heap_other (by have := hkp b hb; omega)
    refine wpIn_mono (hbody _ s _ hok (hI _ _ _ hi hsX)) ?_
    generalize hY2 : X.putObj (w.heap.size + 1) (.loop { rec .ready none with state := .busy }) = Y at hl2 hk2 hq2
    have fin : ∀ (jump : Option Code) (W3 : World), KeepsFrom w.heap.size Y W3 → (∀ b, kp b → W3.heap[b]? = Y.heap[b]?) →
        (Instr.endRound (w.heap.size + 1) jump).run P W3 = .ok (.bool jump.isNone) (W3.putObj (w.heap.size + 1) (.loop (rec (if jump.isNone then .ready else .done) jump))) ∧
        Same w.heap.size Bf W3 (W3.putObj (w.heap.size + 1) (.loop (rec (if jump.isNone then .ready else .done) jump))) ∧
        (∀ b, kp b → (W3.putObj (w.heap.size + 1) (.loop (rec (if jump.isNone then .ready else .done) jump))).heap[b]? = X.heap[b]?) ∧
        (W3.putObj (w.heap.size + 1) (.loop (rec (if jump.isNone then .ready else .done) jump))).heap[w.heap.size + 1]? = some (.loop (rec (if jump.isNone then .ready else .done) jump)) ∧
        (W3.putObj (w.heap.size + 1) (.loop (rec (if jump.isNone then .ready else .done) jump))).heap[w.heap.size]? = some (.deferred (some [])) := by
      intro jump W3 hk3 hq3
      have hl3 := hk3.same _ _ (by omega) hl2 rfl
      have := run_endRound (P := P) jump hl3
      rw [hrec] at this ⊢
      exact ⟨this, Same.putObj _ _ _ _ _ (by omega), fun b hb => (World.putObj_heap_other (by have := hkp b hb; omega)).trans ((hq3 b hb).trans (hq2 b hb)), World.putObj_heap_same (Array.getElem?_eq_some_iff.1 hl3).1, (World.putObj_heap_other (by omega)).trans (hk3.same _ _ (Nat.le_refl _) hk2 rfl)⟩
    rintro e a3 W3 hp
    cases e with
    | normal =>
      obtain ⟨hk3, hq3, hi3⟩ := hp
      obtain ⟨hr, hs4, hq4, hl4, hk4⟩ := fin none W3 hk3 hq3
      exact ⟨_, _, hr, .inl ⟨rfl, hq4, hI _ _ _ hi3 hs4, hl4, hk4⟩⟩
    | ret =>
      obtain ⟨hk3, hq3, hi3⟩ := hp
      obtain ⟨hr, hs4, hq4, hl4, hk4⟩ := fin (some .ret) W3 hk3 hq3
      exact ⟨_, _, hr, .inr ⟨rfl, hq4, .ret, hIx _ _ _ hi3 hs4, hl4, hk4⟩⟩
    | exit id =>
      obtain ⟨hk3, hq3, hi3⟩ := hp
      obtain ⟨hr, hs4, hq4, hl4, hk4⟩ := fin (some (.exit id)) W3 hk3 hq3
      exact ⟨_, _, hr, .inr ⟨rfl, hq4, .exit id, hIx _ _ _ hi3 hs4, hl4, hk4⟩⟩
    | goto t =>
      obtain ⟨hk3, hq3, hi3⟩ := hp
      obtain ⟨hr, hs4, hq4, hl4, hk4⟩ := fin (some (.goto t)) W3 hk3 hq3
      exact ⟨_, _, hr, .inr ⟨rfl, hq4, .goto t, hIx _ _ _ hi3 hs4, hl4, hk4⟩⟩
    | panic ch => exact hp.elim
    | outgrown => exact hp.elim
  · rintro e W2 ⟨⟨v, rfl⟩, (⟨s, hS, hi, hl, hk⟩ | ⟨c, hi, hl, hk⟩)⟩
    · exact ⟨none, _, by have := run_endLoop (P := P) hl (by rw [hrec]; simp); rw [hrec] at this; exact this, hdone _ s _ (Nat.le_refl _) hS (hI _ _ _ hi (Same.putObj _ _ _ _ _ (by omega))) ((World.putObj_heap_other (by omega)).trans hk)⟩
    · exact ⟨some c, _, by have := run_endLoop (P := P) hl (by rw [hrec]; simp); rw [hrec] at this; exact this, hstop _ c _ (Nat.le_refl _) (hIx _ _ _ hi (Same.putObj _ _ _ _ _ (by omega))) ((World.putObj_heap_other (by omega)).trans hk)⟩
end Go.Proofs.Ytlhpejdbmbpmhaa.X
