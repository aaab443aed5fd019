/- Written by uprint.py (ours) for this seat: functions of the translation as Lean functions, and what their calls do. Not trusted: Lean checks it. -/
import Derived.Test.YtlhpejdbmbpmhaaUx0
import Derived.Test.YtlhpejdbmbpmhaaUx2
import Derived.Test.YtlhpejdbmbpmhaaUx16
namespace Go.Proofs.Ytlhpejdbmbpmhaa.U
open Go.RowKit Go.Proofs.YtlhpejdbmbpmhaaW.PrintWords Go.Proofs.YtlhpejdbmbpmhaaW.PrintLast Go.Proofs.YtlhpejdbmbpmhaaW.PrintMore
attribute [local go_sem] max2_int min2_int max_two min_two max_three min_three max_four min_four   -- for this text's walks alone
set_option linter.unusedVariables false
set_option linter.unusedSimpArgs false

/-! ### bits_Count: function 30 (given) -/
/-- Counting, a round a byte. -/
def bits_Count.l0 : Nat → List Int → Int → Int → Int → Option Int
  | 0, _, _, _, _ => none
  | k + 1, l, b, n, f => if f < b then (if f / 8 < (l.length : Int) then (bits_OnesCount8.f (Go.bits .and .u8 (rd l (f / 8)) (bits_each.mask b f))).bind fun t => bits_Count.l0 k l b (wrap64 (n + t)) (bits_each.fin b f) else none) else some n
def bits_Count.f (k : Nat) (l0 : List Int) (a1 a2 : Int) : Option Int := if l0.length ≤ 140737488355328 then bits_Count.l0 k l0 (mn a2 (wrap64 (8 * (l0.length : Int)))) 0 (mx a1 0) else none
theorem bits_Count.mono_l : ∀ (k : Nat) (l : List Int) (b n f : Int), LeO (bits_Count.l0 k l b n f) (bits_Count.l0 (k + 1) l b n f)
  | 0, _, _, _, _ => fun r h => by simp [bits_Count.l0] at h
  | k + 1, l, b, n, f => by
    rw [bits_Count.l0, bits_Count.l0]
    exact LeO.ite (LeO.ite (LeO.bind (LeO.refl _) fun t => bits_Count.mono_l k _ _ _ _) (LeO.refl _)) (LeO.refl _)
theorem bits_Count.mono : ∀ a0 a1 a2 k, LeO (bits_Count.f k a0 a1 a2) (bits_Count.f (k + 1) a0 a1 a2) := by
  intro a0 a1 a2 k
  unfold bits_Count.f
  exact LeO.ite (bits_Count.mono_l _ _ _ _ _) (LeO.refl _)
/-- What the boxes hold between two rounds. -/
def bits_Count.I (l0 : List Int) (b r : Int) (A0 : Option Addr) (c0 : Nat) (w : World) (s : Int) (W : World) : Prop :=
  ∃ (k : Nat) (n : Int), bits_Count.l0 k l0 b n s = some r ∧ X.Blk W (w.heap.size + 1) #[.int .i64 n] 3 ∧ X.Blk W w.heap.size #[.slice A0 l0.length c0] 22 ∧ Below w.heap.size w W
section
attribute [local go_sem] Oper.semAt_some
set_option maxHeartbeats 1000000 in
set_option maxRecDepth 100000 in
theorem bits_Count.calls (k : Nat) (A0 : Option Addr) (c0 : Nat) (l0 : List Int) (a1 : Int) (a2 : Int) (r : Int) (w : World) (hr0 : Kd.C (Kd.int .u8) w A0 l0.length l0) (hc0 : l0.length ≤ c0) (h : bits_Count.f k l0 a1 a2 = some r) :
    Calls Try.prog 30 #[.slice A0 l0.length c0, .int .i64 a1, .int .i64 a2] w fun e w' => e = .returned (.int .i64 r) ∧ Below w.heap.size w w' := by
  unfold bits_Count.f at h
  by_cases hlen : l0.length ≤ 140737488355328
  rotate_left
  · rw [if_neg hlen] at h
    cases h
  rw [if_pos hlen] at h
  have hb0 : mn a2 (wrap64 (8 * (l0.length : Int))) ≤ 1152921504606846976 := by unfold mn wrap64; omega
  have ha0 : 0 ≤ mx a1 0 := by unfold mx; omega
  obtain ⟨b, hb⟩ : ∃ b, mn a2 (wrap64 (8 * (l0.length : Int))) = b := ⟨_, rfl⟩
  obtain ⟨s0, hs0⟩ : ∃ s, mx a1 0 = s := ⟨_, rfl⟩
  rw [hb] at h hb0
  rw [hs0] at h ha0
  have HR0 := Aside0.mk hr0
  have HC0 := Aside0.mk hc0
  have H := Aside0.mk h
  have HBE := Aside0.mk hb
  have HSE := Aside0.mk hs0
  clear hr0 hc0 h hb hs0
  have hM := X.Blk.new w #[.slice A0 l0.length c0] 22
  have h1 := Aside0.mk (hM.alloc (.cells #[.int .i64 0] 3 (0, 0)))
  have h2 : Aside0 (X.Blk ((w.alloc (.cells #[.slice A0 l0.length c0] 22 (0, 0))).alloc (.cells #[.int .i64 0] 3 (0, 0))) (w.heap.size + 1) #[.int .i64 0] 3) := ⟨by
    have := X.Blk.new (w.alloc (.cells #[.slice A0 l0.length c0] 22 (0, 0))) #[.int .i64 0] 3
    rwa [World.size_alloc] at this⟩
  clear hM
  refine (callsIn_wide (n := 5)).1 ?_
  refine callsIn_of_wp_marks Try.func30 rfl trivial ?_ rfl
  simp only [Try.ntmps30, List.size_toArray, List.length_cons, List.length_nil, Nat.reduceAdd, Nat.reduceSub, Array.replicate_succ, Array.replicate_zero, List.push_toArray, List.append_toArray, List.nil_append, List.cons_append]
  gi_wp2_with fail
  refine ⟨trivial, (callsIn_wide.2 (bits_each.calls A0 c0 l0 a1 a2 _ (Kd.C_alloc (Kd.C_alloc HR0.out _) _) HC0.out)).mono ?_⟩
  rintro e w1 ⟨Bf, Bt, rfl, hF, hT, hne, hf1, hf2, hbel⟩
  rw [HBE.out] at hT
  rw [HSE.out] at hF
  have hm1 := h1.out.below hbel h1.out.lt
  have hn1 := h2.out.below hbel h2.out.lt
  have hB1 : Below w.heap.size w w1 := (((Below.refl _ w).alloc (Nat.le_refl _) (.cells #[.slice A0 l0.length c0] 22 (0, 0))).alloc (by simp) (.cells #[.int .i64 0] 3 (0, 0))).trans (hbel.mono (by simp; omega))
  simp only [World.size_alloc] at hf1 hf2
  have hgf := hF.lt
  have hgt := hT.lt
  clear hbel h1 h2
  have HSEQ := Aside0.mk (bits_each.seq 4 (by decide) s0 b Bf Bt hne ha0 hb0 w1 hF hT)
  have HI : Aside0 (bits_Count.I l0 b r A0 c0 w s0 w1) := ⟨⟨k, 0, H.out, hn1, hm1, hB1⟩⟩
  clear hF hT hm1 hn1 hB1 H
  gi_wp2
  refine X.wpIn_range_box rfl (by decide) (gf := 43) (lb := #[.pointer (some ⟨Bf, 0, none⟩), .pointer (some ⟨Bt, 0, none⟩)]) rfl trivial (enters_of Try.func43 (by kernel_rfl) rfl) HSEQ.out hgf
    (by rintro x (rfl | rfl) <;> assumption) (fun _ => rfl) (bits_Count.I l0 b r A0 c0 w) (fun _ _ => False) ?hI (fun _ _ _ h _ => h) HI.out ?a1 ?assign ?body ?done (fun _ _ _ _ h _ => h.elim)
  case hI =>
    rintro s X Y ⟨k, n, h1, h2, h3, h4⟩ hs
    exact ⟨k, n, h1, (hs.block _ (by omega) (by omega)).trans h2, (hs.block _ (by omega) (by omega)).trans h3, hs.below h4 (by omega) (by omega)⟩
  case assign =>
    intro l s W K hK
    gi_wp2
    exact hK
  case body =>
    rintro l s W ⟨h0, hlt⟩ ⟨k, n, hl, hBn, hBm, hB⟩
    cases k with
    | zero => simp [bits_Count.l0] at hl
    | succ k =>
      rw [bits_Count.l0, if_pos hlt] at hl
      by_cases hi : s / 8 < (l0.length : Int)
      rotate_left
      · rw [if_neg hi] at hl
        cases hl
      rw [if_pos hi] at hl
      obtain ⟨t, ht, hl⟩ := Option.bind_eq_some_iff.1 hl
      obtain ⟨ad, he, hx⟩ := Kd.at_int (Kd.C_below HR0.out hB) (s / 8) (by omega) hi
      subst he
      have HL := Aside0.mk hl
      have HT := Aside0.mk ht
      have hcn := hBn.cell 0 (.int .i64 n) rfl
      have hfn := hBn.free 0
      have hcm := hBm.cell 0 (.slice (some ad) l0.length c0) rfl
      have p0 : 0 ≤ s / 8 := by omega
      have HFIN : Aside0 (∀ a' : Act, X.boxPost w1.heap.size (fun x => x = Bf ∨ x = Bt) (bits_Count.I l0 b r (some ad) c0 w (bits_each.fin b s)) (fun _ _ => False) W .normal a' (W.setCell ⟨w.heap.size + 1, 0, none⟩ (.int .i64 (IntKind.i64.wrap (n + t)))).drew) := by
        refine ⟨fun a' => ⟨((KeepsOthers.setCell _ _ _).trans (KeepsOthers.drew _)).from _, ?_, k, wrap64 (n + t), HL.out, ?_, (hBm.other (by omega) 0 _).drew, below_drew (hB.setCell (p := ⟨w.heap.size + 1, 0, none⟩) (Nat.le_succ _) _)⟩⟩
        · intro x hx
          exact (X.Same.setCell (x + 1) (w.heap.size + 1) W 0 _).block x (by omega) (by omega)
        · rw [← i64_w]
          exact (hBn.set 0 _).drew
      have hmx : Try.prog.follows .mixedOrders = true := by kernel_rfl
      clear hl ht hBn hBm hB hlt HSEQ HI HC0 HBE HSE hne hf1 hf2 hgf hgt ha0 hb0 h0
      gi_wp2
      gi_region_with_o (refine ⟨trivial, ?_⟩; gi_at_call 39; refine (CallsIn.inRound l (callsIn_wide.2 (bits_OnesCount8.calls _ t _ HT.out))).mono ?_; rintro e w' ⟨rfl, rfl⟩)
      all_goals gi_wp2
      all_goals exact HFIN.out _
  case done =>
    rintro D s W hD hS ⟨k, n, hl, hBn, hBm, hB⟩ hK
    cases k with
    | zero => simp [bits_Count.l0] at hl
    | succ k =>
      rw [bits_Count.l0, if_neg (by omega)] at hl
      obtain rfl := Option.some.inj hl
      have hcn := hBn.cell 0 (.int .i64 n) rfl
      clear hl
      gi_wp2
      refine ⟨by simp, .inl ⟨_, _, rfl, run_takeDeferred hK, ?_⟩⟩
      exact ⟨_, results_tmp rfl _ _ _, rfl, (X.Same.putObj w.heap.size (w.heap.size + D) W D _ (by omega)).below hB (Nat.le_refl _) (by omega)⟩
end

end Go.Proofs.Ytlhpejdbmbpmhaa.U
