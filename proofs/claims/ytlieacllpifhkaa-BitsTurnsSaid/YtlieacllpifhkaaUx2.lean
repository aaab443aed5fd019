/- Written by uprint.py (ours) for this seat: functions of the translation as Lean functions, and what their calls do. Not trusted: Lean checks it. -/
import Derived.Test.YtlieacllpifhkaaUx0
import Derived.Test.YtlieacllpifhkaaUx1
namespace Go.Proofs.Ytlieacllpifhkaa.U
open Go.RowKit Go.Proofs.YtlieacllpifhkaaW.PrintWords Go.Proofs.YtlieacllpifhkaaW.PrintLast Go.Proofs.YtlieacllpifhkaaW.PrintMore
attribute [local go_sem] max2_int min2_int max_two min_two max_three min_three max_four min_four   -- for this text's walks alone
set_option linter.unusedVariables false
set_option linter.unusedSimpArgs false

/-! ### bits_First: function 16 (given) -/
/-- What of a round's byte is looked at. -/
def bits_First.z (l : List Int) (b : Int) (v : Bool) (f : Int) : Int := if v = true then Go.bits .and .u8 (rd l (f / 8)) (bits_each.mask b f) else Go.bits .and .u8 (Go.bits .xor .u8 IntKind.u8.max (rd l (f / 8))) (bits_each.mask b f)
def bits_First.l0 : Nat → List Int → Int → Bool → Int → Option Int
  | 0, _, _, _, _ => none
  | k + 1, l, b, v, f => if f < b then (if f / 8 < (l.length : Int) then (if bits_First.z l b v f = 0 then bits_First.l0 k l b v (bits_each.fin b f) else (bits_TrailingZeros8.f (bits_First.z l b v f)).bind fun t => some (wrap64 (8 * (f / 8) + t))) else none) else some (-1)
def bits_First.f (k : Nat) (l0 : List Int) (a1 a2 : Int) (a3 : Bool) : Option Int := if l0.length ≤ 140737488355328 then bits_First.l0 k l0 (mn a2 (wrap64 (8 * (l0.length : Int)))) a3 (mx a1 0) else none
theorem bits_First.mono_l : ∀ (k : Nat) (l : List Int) (b : Int) (v : Bool) (f : Int), LeO (bits_First.l0 k l b v f) (bits_First.l0 (k + 1) l b v f)
  | 0, _, _, _, _ => fun r h => by simp [bits_First.l0] at h
  | k + 1, l, b, v, f => by
    rw [bits_First.l0, bits_First.l0]
    exact LeO.ite (LeO.ite (LeO.ite (bits_First.mono_l k _ _ _ _) (LeO.refl _)) (LeO.refl _)) (LeO.refl _)
theorem bits_First.mono : ∀ a0 a1 a2 a3 k, LeO (bits_First.f k a0 a1 a2 a3) (bits_First.f (k + 1) a0 a1 a2 a3) := by
  intro a0 a1 a2 a3 k
  unfold bits_First.f
  exact LeO.ite (bits_First.mono_l _ _ _ _ _) (LeO.refl _)
/-- What the boxes hold between two rounds; and when a round has left. -/
def bits_First.I (l0 : List Int) (b : Int) (v : Bool) (r : Int) (A0 : Option Addr) (c0 : Nat) (w : World) (s : Int) (W : World) : Prop :=
  ∃ k : Nat, bits_First.l0 k l0 b v s = some r ∧ X.Blk W w.heap.size #[.slice A0 l0.length c0] 22 ∧ X.Blk W (w.heap.size + 1) #[.bool v] 4 ∧ X.Blk W (w.heap.size + 1 + 1) #[.int .i64 0] 3 ∧ Below w.heap.size w W
def bits_First.Ix (r : Int) (w : World) (c : Code) (W : World) : Prop := c = .ret ∧ X.Blk W (w.heap.size + 1 + 1) #[.int .i64 r] 3 ∧ Below w.heap.size w W
section
attribute [local go_sem] Oper.semAt_some
set_option maxHeartbeats 1000000 in
set_option maxRecDepth 100000 in
theorem bits_First.calls (k : Nat) (A0 : Option Addr) (c0 : Nat) (l0 : List Int) (a1 : Int) (a2 : Int) (a3 : Bool) (r : Int) (w : World) (hr0 : Kd.C (Kd.int .u8) w A0 l0.length l0) (hc0 : l0.length ≤ c0) (h : bits_First.f k l0 a1 a2 a3 = some r) :
    Calls Try.prog 16 #[.slice A0 l0.length c0, .int .i64 a1, .int .i64 a2, .bool a3] w fun e w' => e = .returned (.int .i64 r) ∧ Below w.heap.size w w' := by
  unfold bits_First.f at h
  by_cases hlen : l0.length ≤ 140737488355328
  rotate_left
  · rw [if_neg hlen] at h
    cases h
  rw [if_pos hlen] at h
  have hb0 : mn a2 (wrap64 (8 * (l0.length : Int))) ≤ 1152921504606846976 := by unfold mn wrap64; omega
  have ha0 : 0 ≤ mx a1 0 := by unfold mx; omega
  obtain ⟨b, hb⟩ : ∃ b, mn a2 (wrap64 (8 * (l0.length : Int))) = b := ⟨_, rfl⟩
  obtain ⟨s0, hs0⟩ : ∃ s, mx a1 0 = s := ⟨_, rfl⟩
  rw [hb] at h hb0
  rw [hs0] at h ha0
  have HR0 := Aside0.mk hr0
  have HC0 := Aside0.mk hc0
  have H := Aside0.mk h
  have HBE := Aside0.mk hb
  have HSE := Aside0.mk hs0
  clear hr0 hc0 h hb hs0
  have h1 := Aside0.mk (((X.Blk.new w #[.slice A0 l0.length c0] 22).alloc (.cells #[.bool a3] 4 (0, 0))).alloc (.cells #[.int .i64 0] 3 (0, 0)))
  have h2 : Aside0 (X.Blk (((w.alloc (.cells #[.slice A0 l0.length c0] 22 (0, 0))).alloc (.cells #[.bool a3] 4 (0, 0))).alloc (.cells #[.int .i64 0] 3 (0, 0))) (w.heap.size + 1) #[.bool a3] 4) := ⟨by
    have := (X.Blk.new (w.alloc (.cells #[.slice A0 l0.length c0] 22 (0, 0))) #[.bool a3] 4).alloc (.cells #[.int .i64 0] 3 (0, 0))
    rwa [World.size_alloc] at this⟩
  have h3 : Aside0 (X.Blk (((w.alloc (.cells #[.slice A0 l0.length c0] 22 (0, 0))).alloc (.cells #[.bool a3] 4 (0, 0))).alloc (.cells #[.int .i64 0] 3 (0, 0))) (w.heap.size + 1 + 1) #[.int .i64 0] 3) := ⟨by
    have := X.Blk.new ((w.alloc (.cells #[.slice A0 l0.length c0] 22 (0, 0))).alloc (.cells #[.bool a3] 4 (0, 0))) #[.int .i64 0] 3
    rwa [World.size_alloc, World.size_alloc] at this⟩
  refine (callsIn_wide (n := 5)).1 ?_
  refine callsIn_of_wp_marks Try.func16 rfl trivial ?_ rfl
  simp only [Try.ntmps16, List.size_toArray, List.length_cons, List.length_nil, Nat.reduceAdd, Nat.reduceSub, Array.replicate_succ, Array.replicate_zero, List.push_toArray, List.append_toArray, List.nil_append, List.cons_append]
  gi_wp2_with fail
  refine ⟨trivial, (callsIn_wide.2 (bits_each.calls A0 c0 l0 a1 a2 _ (Kd.C_alloc (Kd.C_alloc (Kd.C_alloc HR0.out _) _) _) HC0.out)).mono ?_⟩
  rintro e w1 ⟨Bf, Bt, rfl, hF, hT, hne, hf1, hf2, hbel⟩
  rw [HBE.out] at hT
  rw [HSE.out] at hF
  have hm1 := h1.out.below hbel h1.out.lt
  have hn1 := h2.out.below hbel h2.out.lt
  have hr1 := h3.out.below hbel h3.out.lt
  have hB1 : Below w.heap.size w w1 := ((((Below.refl _ w).alloc (Nat.le_refl _) (.cells #[.slice A0 l0.length c0] 22 (0, 0))).alloc (by simp) (.cells #[.bool a3] 4 (0, 0))).alloc (by simp; omega) (.cells #[.int .i64 0] 3 (0, 0))).trans (hbel.mono (by simp; omega))
  simp only [World.size_alloc] at hf1 hf2
  have hgf := hF.lt
  have hgt := hT.lt
  clear hbel h1 h2 h3
  have HSEQ := Aside0.mk (bits_each.seq 4 (by decide) s0 b Bf Bt hne ha0 hb0 w1 hF hT)
  have HI : Aside0 (bits_First.I l0 b a3 r A0 c0 w s0 w1) := ⟨⟨k, H.out, hm1, hn1, hr1, hB1⟩⟩
  clear hF hT hm1 hn1 hr1 hB1 H
  gi_wp2
  refine X.wpIn_range_box rfl (by decide) (gf := 28) (lb := #[.pointer (some ⟨Bf, 0, none⟩), .pointer (some ⟨Bt, 0, none⟩)]) rfl trivial (enters_of Try.func28 (by kernel_rfl) rfl) HSEQ.out hgf
    (by rintro x (rfl | rfl) <;> assumption) (fun _ => rfl) (bits_First.I l0 b a3 r A0 c0 w) (bits_First.Ix r w) ?hI ?hIx HI.out ?a1 ?assign ?body ?done ?stop
  case hI =>
    rintro s X Y ⟨k, h1, h2, h3, h4, h5⟩ hs
    exact ⟨k, h1, (hs.block _ (by omega) (by omega)).trans h2, (hs.block _ (by omega) (by omega)).trans h3, (hs.block _ (by omega) (by omega)).trans h4, hs.below h5 (by omega) (by omega)⟩
  case hIx =>
    rintro c X Y ⟨h1, h2, h3⟩ hs
    exact ⟨h1, (hs.block _ (by omega) (by omega)).trans h2, hs.below h3 (by omega) (by omega)⟩
  case assign =>
    intro l s W K hK
    gi_wp2
    exact hK
  case body =>
    rintro l s W ⟨h0, hlt⟩ ⟨k, hl, hBm, hBv, hBr, hB⟩
    cases k with
    | zero => simp [bits_First.l0] at hl
    | succ k =>
      rw [bits_First.l0, if_pos hlt] at hl
      by_cases hi : s / 8 < (l0.length : Int)
      rotate_left
      · rw [if_neg hi] at hl
        cases hl
      rw [if_pos hi] at hl
      obtain ⟨ad, he, hx⟩ := Kd.at_int (Kd.C_below HR0.out hB) (s / 8) (by omega) hi
      subst he
      have hcm := hBm.cell 0 (.slice (some ad) l0.length c0) rfl
      have hcv := hBv.cell 0 (.bool a3) rfl
      have hcr := hBr.cell 0 (.int .i64 0) rfl
      have hfr := hBr.free 0
      have p0 : 0 ≤ s / 8 := by omega
      have hgo : bits_First.l0 k l0 b a3 (bits_each.fin b s) = some r → bits_First.I l0 b a3 r (some ad) c0 w (bits_each.fin b s) W := fun hg => ⟨k, hg, hBm, hBv, hBr, hB⟩
      have hex : ∀ a' : Act, X.boxPost w1.heap.size (fun x => x = Bf ∨ x = Bt) (bits_First.I l0 b a3 r (some ad) c0 w (bits_each.fin b s)) (bits_First.Ix r w) W .ret a' (W.setCell ⟨w.heap.size + 1 + 1, 0, none⟩ (.int .i64 r)) := by
        intro a'
        refine ⟨(KeepsOthers.setCell _ _ _).from _, ?_, rfl, hBr.set 0 _, hB.setCell (p := ⟨w.heap.size + 1 + 1, 0, none⟩) (by simp; omega) _⟩
        intro x hx
        exact (X.Same.setCell (x + 1) (w.heap.size + 1 + 1) W 0 _).block x (by omega) (by omega)
      have HGO := Aside0.mk hgo
      have HEX := Aside0.mk hex
      clear hgo hex hBm hBv hBr hB hlt HSEQ HI HC0 HBE HSE hne hf1 hf2 hgf hgt ha0 hb0 h0 HR0
      by_cases hz : bits_First.z l0 b a3 s = 0
      · rw [if_pos hz] at hl
        have HG := Aside0.mk (HGO.out hl)
        clear hl HGO HEX
        cases a3
        · have hsg : IntKind.u8.signed = false := rfl
          have z0 : ((Go.bits .and .u8 (Go.bits .xor .u8 IntKind.u8.max (rd l0 (s / 8))) (bits_each.mask b s)) != 0) = false := by rw [show Go.bits .and .u8 (Go.bits .xor .u8 IntKind.u8.max (rd l0 (s / 8))) (bits_each.mask b s) = 0 from hz]; rfl
          clear hz
          gi_wp2
          exact ⟨KeepsFrom.refl _ _, fun _ _ => rfl, HG.out⟩
        · have z0 : ((Go.bits .and .u8 (rd l0 (s / 8)) (bits_each.mask b s)) != 0) = false := by rw [show Go.bits .and .u8 (rd l0 (s / 8)) (bits_each.mask b s) = 0 from hz]; rfl
          clear hz
          gi_wp2
          exact ⟨KeepsFrom.refl _ _, fun _ _ => rfl, HG.out⟩
      · rw [if_neg hz] at hl
        obtain ⟨t, ht, hl⟩ := Option.bind_eq_some_iff.1 hl
        obtain rfl := Option.some.inj hl
        have HT := Aside0.mk ht
        clear hl ht HGO
        cases a3
        · have hsg : IntKind.u8.signed = false := rfl
          have z0 : ((Go.bits .and .u8 (Go.bits .xor .u8 IntKind.u8.max (rd l0 (s / 8))) (bits_each.mask b s)) != 0) = true := bne_iff_ne.2 hz
          clear hz
          gi_wp2_with (refine ⟨trivial, ?_⟩; gi_at_call 26; refine (CallsIn.inRound l (callsIn_wide.2 (bits_TrailingZeros8.calls _ t _ HT.out))).mono ?_; rintro e w' ⟨rfl, rfl⟩)
          exact HEX.out _
        · have z0 : ((Go.bits .and .u8 (rd l0 (s / 8)) (bits_each.mask b s)) != 0) = true := bne_iff_ne.2 hz
          clear hz
          gi_wp2_with (refine ⟨trivial, ?_⟩; gi_at_call 26; refine (CallsIn.inRound l (callsIn_wide.2 (bits_TrailingZeros8.calls _ t _ HT.out))).mono ?_; rintro e w' ⟨rfl, rfl⟩)
          exact HEX.out _
  case done =>
    rintro D s W hD hS ⟨k, hl, hBm, hBv, hBr, hB⟩ hK
    cases k with
    | zero => simp [bits_First.l0] at hl
    | succ k =>
      rw [bits_First.l0, if_neg (by omega)] at hl
      obtain rfl := Option.some.inj hl
      have hcr := hBr.cell 0 (.int .i64 0) rfl
      have hfr := hBr.free 0
      clear hl
      gi_wp2
      have hK' := (KeepsOthers.setCell W ⟨w.heap.size + 1 + 1, 0, none⟩ (.int .i64 (-1))).same D _ hK rfl
      refine ⟨by simp, .inl ⟨_, _, rfl, run_takeDeferred hK', ?_⟩⟩
      have hc5 : X.Blk (W.setCell ⟨w.heap.size + 1 + 1, 0, none⟩ (.int .i64 (-1))) (w.heap.size + 1 + 1) #[.int .i64 (-1)] 3 := hBr.set 0 (.int .i64 (-1))
      have hc6 : X.Blk ((W.setCell ⟨w.heap.size + 1 + 1, 0, none⟩ (.int .i64 (-1))).putObj D (.deferred none)) (w.heap.size + 1 + 1) #[.int .i64 (-1)] 3 := (World.putObj_heap_other (by omega)).trans hc5
      have hc7 := hc6.cell 0 (.int .i64 (-1)) rfl
      refine ⟨.int .i64 (-1), ?_, rfl, (X.Same.putObj w.heap.size (w.heap.size + D) _ D _ (by omega)).below (hB.setCell (p := ⟨w.heap.size + 1 + 1, 0, none⟩) (by simp; omega) _) (Nat.le_refl _) (by omega)⟩
      simp [results, Try.f16, go_sem, hc7]
  case stop =>
    rintro D c W hD ⟨rfl, hBr, hB⟩ hK
    gi_wp2
    refine ⟨by simp, .inl ⟨_, _, rfl, run_takeDeferred hK, ?_⟩⟩
    have hc6 : X.Blk (W.putObj D (.deferred none)) (w.heap.size + 1 + 1) #[.int .i64 r] 3 := (World.putObj_heap_other (by omega)).trans hBr
    have hc7 := hc6.cell 0 (.int .i64 r) rfl
    refine ⟨.int .i64 r, ?_, rfl, (X.Same.putObj w.heap.size (w.heap.size + D) _ D _ (by omega)).below hB (Nat.le_refl _) (by omega)⟩
    simp [results, Try.f16, go_sem, hc7]
end

end Go.Proofs.Ytlieacllpifhkaa.U
