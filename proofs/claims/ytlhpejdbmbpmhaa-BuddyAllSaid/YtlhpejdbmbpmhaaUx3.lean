/- Written by uprint.py (ours) for this seat: functions of the translation as Lean functions, and what their calls do. Not trusted: Lean checks it. -/
import Derived.Test.YtlhpejdbmbpmhaaUx0
import Derived.Test.YtlhpejdbmbpmhaaUx2
namespace Go.Proofs.Ytlhpejdbmbpmhaa.U
open Go.RowKit Go.Proofs.YtlhpejdbmbpmhaaW.PrintWords Go.Proofs.YtlhpejdbmbpmhaaW.PrintLast Go.Proofs.YtlhpejdbmbpmhaaW.PrintMore
attribute [local go_sem] max2_int min2_int max_two min_two max_three min_three max_four min_four   -- for this text's walks alone
set_option linter.unusedVariables false
set_option linter.unusedSimpArgs false

/-! ### bits_TrailingZeros8: function 40 (given) -/
def bits_TrailingZeros8.f (a0 : Int) : Option Int := if 0 ≤ a0 ∧ a0 < 256 then some (X.low8 a0.toNat : Int) else none
set_option maxHeartbeats 400000 in
set_option maxRecDepth 100000 in
theorem bits_TrailingZeros8.calls (a0 : Int) (r : Int) (w : World) (h : bits_TrailingZeros8.f a0 = some r) :
    Calls Try.prog 40 #[.int .u8 a0] w fun e w' => e = .returned (.int .i64 r) ∧ w' = w := by
  unfold bits_TrailingZeros8.f at h
  by_cases hb : 0 ≤ a0 ∧ a0 < 256
  rotate_left
  · rw [if_neg hb] at h
    cases h
  rw [if_pos hb] at h
  have HR := Aside0.mk h
  clear h
  obtain ⟨h0, h1⟩ := hb
  go_enter Try.func40, Try.ntmps40
  go_wp2
  go_ret
  obtain rfl := Option.some.inj HR.out
  refine ⟨congrArg (fun z => Ending.returned (.int .i64 z)) ?_, rfl⟩
  clear HR
  obtain ⟨n, rfl⟩ := X.byte_fin h0 h1
  revert h0 h1
  revert n
  decide +kernel

/-! ### bits_First: function 31 (given) -/
/-- What of a round's byte is looked at. -/
def bits_First.z (l : List Int) (b : Int) (v : Bool) (f : Int) : Int := if v = true then Go.bits .and .u8 (rd l (f / 8)) (bits_each.mask b f) else Go.bits .and .u8 (Go.bits .xor .u8 IntKind.u8.max (rd l (f / 8))) (bits_each.mask b f)
def bits_First.l0 : Nat → List Int → Int → Bool → Int → Option Int
  | 0, _, _, _, _ => none
  | k + 1, l, b, v, f => if f < b then (if f / 8 < (l.length : Int) then (if bits_First.z l b v f = 0 then bits_First.l0 k l b v (bits_each.fin b f) else (bits_TrailingZeros8.f (bits_First.z l b v f)).bind fun t => some (wrap64 (8 * (f / 8) + t))) else none) else some (-1)
def bits_First.f (k : Nat) (l0 : List Int) (a1 a2 : Int) (a3 : Bool) : Option Int := if l0.length ≤ 140737488355328 then bits_First.l0 k l0 (mn a2 (wrap64 (8 * (l0.length : Int)))) a3 (mx a1 0) else none
theorem bits_First.mono_l : ∀ (k : Nat) (l : List Int) (b : Int) (v : Bool) (f : Int), LeO (bits_First.l0 k l b v f) (bits_First.l0 (k + 1) l b v f)
  | 0, _, _, _, _ => fun r h => by simp [bits_First.l0] at h
  | k + 1, l, b, v, f => by
    rw [bits_First.l0, bits_First.l0]
    exact LeO.ite (LeO.ite (LeO.ite (bits_First.mono_l k _ _ _ _) (LeO.refl _)) (LeO.refl _)) (LeO.refl _)
theorem bits_First.mono : ∀ a0 a1 a2 a3 k, LeO (bits_First.f k a0 a1 a2 a3) (bits_First.f (k + 1) a0 a1 a2 a3) := by
  intro a0 a1 a2 a3 k
  unfold bits_First.f
  exact LeO.ite (bits_First.mono_l _ _ _ _ _) (LeO.refl _)
/-- What the boxes hold between two rounds; and when a round has left. -/
def bits_First.I (l0 : List Int) (b : Int) (v : Bool) (r : Int) (A0 : Option Addr) (c0 : Nat) (w : World) (s : Int) (W : World) : Prop :=
  ∃ k : Nat, bits_First.l0 k l0 b v s = some r ∧ X.Blk W w.heap.size #[.slice A0 l0.length c0] 22 ∧ X.Blk W (w.heap.size + 1) #[.bool v] 4 ∧ X.Blk W (w.heap.size + 1 + 1) #[.int .i64 0] 3 ∧ Below w.heap.size w W
def bits_First.Ix (r : Int) (w : World) (c : Code) (W : World) : Prop := c = .ret ∧ X.Blk W (w.heap.size + 1 + 1) #[.int .i64 r] 3 ∧ Below w.heap.size w W
section
attribute [local go_sem] Oper.semAt_some
set_option maxHeartbeats 1000000 in
set_option maxRecDepth 100000 in
theorem bits_First.calls (k : Nat) (A0 : Option Addr) (c0 : Nat) (l0 : List Int) (a1 : Int) (a2 : Int) (a3 : Bool) (r : Int) (w : World) (hr0 : Kd.C (Kd.int .u8) w A0 l0.length l0) (hc0 : l0.length ≤ c0) (h : bits_First.f k l0 a1 a2 a3 = some r) :
    Calls Try.prog 31 #[.slice A0 l0.length c0, .int .i64 a1, .int .i64 a2, .bool a3] w fun e w' => e = .returned (.int .i64 r) ∧ Below w.heap.size w w' := by
  unfold bits_First.f at h
  by_cases hlen : l0.length ≤ 140737488355328
  rotate_left
  · rw [if_neg hlen] at h
    cases h
  rw [if_pos hlen] at h
  have hb0 : mn a2 (wrap64 (8 * (l0.length : Int))) ≤ 1152921504606846976 := by unfold mn wrap64; omega
  have ha0 : 0 ≤ mx a1 0 := by unfold mx; omega
  obtain ⟨b, hb⟩ : ∃ b, mn a2 (wrap64 (8 * (l0.length : Int))) = b := ⟨_, rfl⟩
  obtain ⟨s0, hs0⟩ : ∃ s, mx a1 0 = s := ⟨_, rfl⟩
  rw [hb] at h hb0
  rw [hs0] at h ha0
  have HR0 := Aside0.mk hr0
  have HC0 := Aside0.mk hc0
  have H := Aside0.mk h
  have HBE := Aside0.mk hb
  have HSE := Aside0.mk hs0
  clear hr0 hc0 h hb hs0
  have h1 := Aside0.mk (((X.Blk.new w #[.slice A0 l0.length c0] 22).alloc (.cells #[.bool a3] 4 (0, 0))).alloc (.cells #[.int .i64 0] 3 (0, 0)))
  have h2 : Aside0 (X.Blk (((w.alloc (.cells #[.slice A0 l0.length c0] 22 (0, 0))).alloc (.cells #[.bool a3] 4 (0, 0))).alloc (.cells #[.int .i64 0] 3 (0, 0))) (w.heap.size + 1) #[.bool a3] 4) := ⟨by
    have := (X.Blk.new (w.alloc (.cells #[.slice A0 l0.length c0] 22 (0, 0))) #[.bool a3] 4).alloc (.cells #[.int .i64 0] 3 (0, 0))
    rwa [World.size_alloc] at this⟩
  have h3 : Aside0 (X.Blk (((w.alloc (.cells #[.slice A0 l0.length c0] 22 (0, 0))).alloc (.cells #[.bool a3] 4 (0, 0))).alloc (.cells #[.int .i64 0] 3 (0, 0))) (w.heap.size + 1 + 1) #[.int .i64 0] 3) := ⟨by
    have := X.Blk.new ((w.alloc (.cells #[.slice A0 l0.length c0] 22 (0, 0))).alloc (.cells #[.bool a3] 4 (0, 0))) #[.int .i64 0] 3
    rwa [World.size_alloc, World.size_alloc] at this⟩
  refine (callsIn_wide (n := 5)).1 ?_
  refine callsIn_of_wp_marks Try.func31 rfl trivial ?_ rfl
  simp only [Try.ntmps31, List.size_toArray, List.length_cons, List.length_nil, Nat.reduceAdd, Nat.reduceSub, Array.replicate_succ, Array.replicate_zero, List.push_toArray, List.append_toArray, List.nil_append, List.cons_append]
  gi_wp2_with fail
  refine ⟨trivial, (callsIn_wide.2 (bits_each.calls A0 c0 l0 a1 a2 _ (Kd.C_alloc (Kd.C_alloc (Kd.C_alloc HR0.out _) _) _) HC0.out)).mono ?_⟩
  rintro e w1 ⟨Bf, Bt, rfl, hF, hT, hne, hf1, hf2, hbel⟩
  rw [HBE.out] at hT
  rw [HSE.out] at hF
  have hm1 := h1.out.below hbel h1.out.lt
  have hn1 := h2.out.below hbel h2.out.lt
  have hr1 := h3.out.below hbel h3.out.lt
  have hB1 : Below w.heap.size w w1 := ((((Below.refl _ w).alloc (Nat.le_refl _) (.cells #[.slice A0 l0.length c0] 22 (0, 0))).alloc (by simp) (.cells #[.bool a3] 4 (0, 0))).alloc (by simp; omega) (.cells #[.int .i64 0] 3 (0, 0))).trans (hbel.mono (by simp; omega))
  simp only [World.size_alloc] at hf1 hf2
  have hgf := hF.lt
  have hgt := hT.lt
  clear hbel h1 h2 h3
  have HSEQ := Aside0.mk (bits_each.seq 4 (by decide) s0 b Bf Bt hne ha0 hb0 w1 hF hT)
  have HI : Aside0 (bits_First.I l0 b a3 r A0 c0 w s0 w1) := ⟨⟨k, H.out, hm1, hn1, hr1, hB1⟩⟩
  clear hF hT hm1 hn1 hr1 hB1 H
  gi_wp2
  refine X.wpIn_range_box rfl (by decide) (gf := 43) (lb := #[.pointer (some ⟨Bf, 0, none⟩), .pointer (some ⟨Bt, 0, none⟩)]) rfl trivial (enters_of Try.func43 (by kernel_rfl) rfl) HSEQ.out hgf
    (by rintro x (rfl | rfl) <;> assumption) (fun _ => rfl) (bits_First.I l0 b a3 r A0 c0 w) (bits_First.Ix r w) ?hI ?hIx HI.out ?a1 ?assign ?body ?done ?stop
  case hI =>
    rintro s X Y ⟨k, h1, h2, h3, h4, h5⟩ hs
    exact ⟨k, h1, (hs.block _ (by omega) (by omega)).trans h2, (hs.block _ (by omega) (by omega)).trans h3, (hs.block _ (by omega) (by omega)).trans h4, hs.below h5 (by omega) (by omega)⟩
  case hIx =>
    rintro c X Y ⟨h1, h2, h3⟩ hs
    exact ⟨h1, (hs.block _ (by omega) (by omega)).trans h2, hs.below h3 (by omega) (by omega)⟩
  case assign =>
    intro l s W K hK
    gi_wp2
    exact hK
  case body =>
    rintro l s W ⟨h0, hlt⟩ ⟨k, hl, hBm, hBv, hBr, hB⟩
    cases k with
    | zero => simp [bits_First.l0] at hl
    | succ k =>
      rw [bits_First.l0, if_pos hlt] at hl
      by_cases hi : s / 8 < (l0.length : Int)
      rotate_left
      · rw [if_neg hi] at hl
        cases hl
      rw [if_pos hi] at hl
      obtain ⟨ad, he, hx⟩ := Kd.at_int (Kd.C_below HR0.out hB) (s / 8) (by omega) hi
      subst he
      have hcm := hBm.cell 0 (.slice (some ad) l0.length c0) rfl
      have hcv := hBv.cell 0 (.bool a3) rfl
      have hcr := hBr.cell 0 (.int .i64 0) rfl
      have hfr := hBr.free 0
      have p0 : 0 ≤ s / 8 := by omega
      have hgo : bits_First.l0 k l0 b a3 (bits_each.fin b s) = some r → bits_First.I l0 b a3 r (some ad) c0 w (bits_each.fin b s) W := fun hg => ⟨k, hg, hBm, hBv, hBr, hB⟩
      have hex : ∀ a' : Act, X.boxPost w1.heap.size (fun x => x = Bf ∨ x = Bt) (bits_First.I l0 b a3 r (some ad) c0 w (bits_each.fin b s)) (bits_First.Ix r w) W .ret a' (W.setCell ⟨w.heap.size + 1 + 1, 0, none⟩ (.int .i64 r)) := by
        intro a'
        refine ⟨(KeepsOthers.setCell _ _ _).from _, ?_, rfl, hBr.set 0 _, hB.setCell (p := ⟨w.heap.size + 1 + 1, 0, none⟩) (by simp; omega) _⟩
        intro x hx
        exact (X.Same.setCell (x + 1) (w.heap.size + 1 + 1) W 0 _).block x (by omega) (by omega)
      have HGO := Aside0.mk hgo
      have HEX := Aside0.mk hex
      clear hgo hex hBm hBv hBr hB hlt HSEQ HI HC0 HBE HSE hne hf1 hf2 hgf hgt ha0 hb0 h0 HR0
      by_cases hz : bits_First.z l0 b a3 s = 0
      · rw [if_pos hz] at hl
        have HG := Aside0.mk (HGO.out hl)
        clear hl HGO HEX
        cases a3
        · have hsg : IntKind.u8.signed = false := rfl
          have z0 : ((Go.bits .and .u8 (Go.bits .xor .u8 IntKind.u8.max (rd l0 (s / 8))) (bits_each.mask b s)) != 0) = false := by rw [show Go.bits .and .u8 (Go.bits .xor .u8 IntKind.u8.max (rd l0 (s / 8))) (bits_each.mask b s) = 0 from hz]; rfl
          clear hz
          gi_wp2
          exact ⟨KeepsFrom.refl _ _, fun _ _ => rfl, HG.out⟩
        · have z0 : ((Go.bits .and .u8 (rd l0 (s / 8)) (bits_each.mask b s)) != 0) = false := by rw [show Go.bits .and .u8 (rd l0 (s / 8)) (bits_each.mask b s) = 0 from hz]; rfl
          clear hz
          gi_wp2
          exact ⟨KeepsFrom.refl _ _, fun _ _ => rfl, HG.out⟩
      · rw [if_neg hz] at hl
        obtain ⟨t, ht, hl⟩ := Option.bind_eq_some_iff.1 hl
        obtain rfl := Option.some.inj hl
        have HT := Aside0.mk ht
        clear hl ht HGO
        cases a3
        · have hsg : IntKind.u8.signed = false := rfl
          have z0 : ((Go.bits .and .u8 (Go.bits .xor .u8 IntKind.u8.max (rd l0 (s / 8))) (bits_each.mask b s)) != 0) = true := bne_iff_ne.2 hz
          clear hz
          gi_wp2_with (refine ⟨trivial, ?_⟩; gi_at_call 40; refine (CallsIn.inRound l (callsIn_wide.2 (bits_TrailingZeros8.calls _ t _ HT.out))).mono ?_; rintro e w' ⟨rfl, rfl⟩)
          exact HEX.out _
        · have z0 : ((Go.bits .and .u8 (rd l0 (s / 8)) (bits_each.mask b s)) != 0) = true := bne_iff_ne.2 hz
          clear hz
          gi_wp2_with (refine ⟨trivial, ?_⟩; gi_at_call 40; refine (CallsIn.inRound l (callsIn_wide.2 (bits_TrailingZeros8.calls _ t _ HT.out))).mono ?_; rintro e w' ⟨rfl, rfl⟩)
          exact HEX.out _
  case done =>
    rintro D s W hD hS ⟨k, hl, hBm, hBv, hBr, hB⟩ hK
    cases k with
    | zero => simp [bits_First.l0] at hl
    | succ k =>
      rw [bits_First.l0, if_neg (by omega)] at hl
      obtain rfl := Option.some.inj hl
      have hcr := hBr.cell 0 (.int .i64 0) rfl
      have hfr := hBr.free 0
      clear hl
      gi_wp2
      have hK' := (KeepsOthers.setCell W ⟨w.heap.size + 1 + 1, 0, none⟩ (.int .i64 (-1))).same D _ hK rfl
      refine ⟨by simp, .inl ⟨_, _, rfl, run_takeDeferred hK', ?_⟩⟩
      have hc5 : X.Blk (W.setCell ⟨w.heap.size + 1 + 1, 0, none⟩ (.int .i64 (-1))) (w.heap.size + 1 + 1) #[.int .i64 (-1)] 3 := hBr.set 0 (.int .i64 (-1))
      have hc6 : X.Blk ((W.setCell ⟨w.heap.size + 1 + 1, 0, none⟩ (.int .i64 (-1))).putObj D (.deferred none)) (w.heap.size + 1 + 1) #[.int .i64 (-1)] 3 := (World.putObj_heap_other (by omega)).trans hc5
      have hc7 := hc6.cell 0 (.int .i64 (-1)) rfl
      refine ⟨.int .i64 (-1), ?_, rfl, (X.Same.putObj w.heap.size (w.heap.size + D) _ D _ (by omega)).below (hB.setCell (p := ⟨w.heap.size + 1 + 1, 0, none⟩) (by simp; omega) _) (Nat.le_refl _) (by omega)⟩
      simp [results, Try.f31, go_sem, hc7]
  case stop =>
    rintro D c W hD ⟨rfl, hBr, hB⟩ hK
    gi_wp2
    refine ⟨by simp, .inl ⟨_, _, rfl, run_takeDeferred hK, ?_⟩⟩
    have hc6 : X.Blk (W.putObj D (.deferred none)) (w.heap.size + 1 + 1) #[.int .i64 r] 3 := (World.putObj_heap_other (by omega)).trans hBr
    have hc7 := hc6.cell 0 (.int .i64 r) rfl
    refine ⟨.int .i64 r, ?_, rfl, (X.Same.putObj w.heap.size (w.heap.size + D) _ D _ (by omega)).below hB (Nat.le_refl _) (by omega)⟩
    simp [results, Try.f31, go_sem, hc7]
end

/-! ### buddy_pool_free: function 29 -/
def buddy_pool_free.f (k : Nat) (l0_0 : List Int) (a0_1 : Int) (a1 : Int) (a2 : Int) : Option (Bool) := if 0 ≤ a2 then (if (wrap64 (a1 + (shl .i64 1 a2))) ≤ a0_1 then ((bits_First.f k l0_0 a1 (wrap64 (a1 + (shl .i64 1 a2))) true).bind fun t104 => (some (decide (t104 < 0)))) else (some false)) else (none)
theorem buddy_pool_free.mono : ∀ a0 a1 a2 a3 k, LeO (buddy_pool_free.f k a0 a1 a2 a3) (buddy_pool_free.f (k + 1) a0 a1 a2 a3) := by
  intro a0 a1 a2 a3 k
  unfold buddy_pool_free.f
  repeat' first
      | (with_reducible exact bits_First.mono _ _ _ _ _)
      | (with_reducible exact LeO.refl _)
      | (with_reducible exact LeO.none _)
      | (with_reducible refine LeO.ite ?_ ?_)
      | (with_reducible refine LeO.bind ?_ (fun _ => ?_))
      | exact bits_First.mono _ _ _ _ _
      | exact LeO.none _
      | refine LeO.ite ?_ ?_
      | refine LeO.bind ?_ (fun _ => ?_)
set_option maxHeartbeats 8000000 in
set_option maxRecDepth 100000 in
theorem buddy_pool_free.calls (k : Nat) (A0_0 : Option Addr) (c0_0 : Nat) (l0_0 : List Int) (a0_1 : Int) (a1 : Int) (a2 : Int) (r : Bool) (w : World) (hr0_0 : Kd.C (Kd.int .u8) w A0_0 l0_0.length l0_0) (hc0_0 : l0_0.length ≤ c0_0) (h : buddy_pool_free.f k l0_0 a0_1 a1 a2 = some r) :
    Calls Try.prog 29 #[.agg #[.slice A0_0 l0_0.length c0_0, .int .i64 a0_1], .int .i64 a1, .int .i64 a2] w fun e w' => e = .returned (.bool r) ∧ Below w.heap.size w w' := by
  have hu45 := Try.underlying45
  have HR0_0 := Aside0.mk hr0_0
  have HC0_0 := Aside0.mk hc0_0
  clear hr0_0 hc0_0
  have HB := Aside0.mk (Below.refl w.heap.size w)
  have H : (if 0 ≤ a2 then (if (wrap64 (a1 + (shl .i64 1 a2))) ≤ a0_1 then ((bits_First.f k l0_0 a1 (wrap64 (a1 + (shl .i64 1 a2))) true).bind fun t104 => (some (decide (t104 < 0)))) else (some false)) else (none)) = some r := h
  clear h
  by_cases c4 : 0 ≤ a2
  · rw [if_pos c4] at H
    have c4b0 := eq_true c4
    have c4b1 : decide (0 ≤ a2) = true := decide_eq_true c4
    clear c4
    obtain ⟨ji5, hji5⟩ : ∃ j_ : Int, (shl .i64 1 a2) = j_ := ⟨_, rfl⟩
    replace H : (if (wrap64 (a1 + (ji5))) ≤ a0_1 then ((bits_First.f k l0_0 a1 (wrap64 (a1 + (ji5))) true).bind fun t104 => (some (decide (t104 < 0)))) else (some false)) = some r := by first | (rw [hji5] at H; exact H) | (simp only [hji5] at H ⊢; exact H)
    have hji5_ : (IntKind.i64.wrap (1 * 2 ^ min a2.toNat 64)) = ji5 := hji5
    have hji5z : a2 ≤ 64 → (IntKind.i64.wrap (1 * 2 ^ a2.toNat)) = ji5 := shl_small hji5
    have hji5u : (IntKind.i64.wrap (2 ^ min a2.toNat 64)) = ji5 := by have h_ := hji5_; rw [Int.one_mul] at h_; exact h_
    have hji5v : a2 ≤ 64 → (IntKind.i64.wrap (2 ^ a2.toNat)) = ji5 := fun hle_ => by have h_ := hji5z hle_; rw [Int.one_mul] at h_; exact h_
    have hji5y : (wrap64 (1 * 2 ^ min a2.toNat 64)) = ji5 := (i64_w _).symm.trans hji5_
    have hji5x : a2 ≤ 64 → (wrap64 (1 * 2 ^ a2.toNat)) = ji5 := fun h_ => (i64_w _).symm.trans (hji5z h_)
    by_cases c6 : (wrap64 (a1 + (ji5))) ≤ a0_1
    rotate_left
    · rw [if_neg c6] at H
      have c6b0 : decide ((wrap64 (a1 + (ji5))) ≤ a0_1) = false := decide_eq_false c6
      clear c6
      obtain rfl := Option.some.inj H
      go_enter Try.func29, Try.ntmps29
      go_wp2_with (first | ((with_reducible refine gate_dst (N := 3) rfl ?_); refine box_event ?hg (N := 3) ?hd (cs := #[.slice A0_0 l0_0.length c0_0, .int .i64 a0_1]) (t := 45) ?hr ?_; (case hd => rfl); (case hg => rfl); (case hr => go_simp; first | done | rfl); intro gb103 hg w11 hbox hb; have n0_ := Aside0.mk (below_step (by repeat (first | (with_reducible first | exact HB.out | apply below_alloc | apply pw_below_drewN | apply below_drew1) | exact HB.out)) hb); have n1_ := Aside0.mk (hbox); have n2_ := Aside0.mk ((by rw [hg]; exact (below_size (by repeat (first | (with_reducible first | exact HB.out | apply below_alloc | apply pw_below_drewN | apply below_drew1) | exact HB.out))) : w.heap.size ≤ gb103)); have n3_ := Aside0.mk ((by rw [hg]; exact (below_size (by repeat (first | (with_reducible first | exact HB.out | apply below_alloc | apply pw_below_drewN | apply below_drew1) | exact HB.out))) : w.heap.size ≤ gb103)); clear HB; have HB := n0_; have BK103 := n1_; have GW103 := n2_; have GE103 := n3_; clear n0_ n1_ n2_ n3_; clear hb hbox hg; have hcz12_0 : w11.cell? ⟨gb103, 0, none⟩ = some (.slice A0_0 l0_0.length c0_0) := (blk_cell BK103.out 0).trans rfl; have hcz12_1 : w11.cell? ⟨gb103, 1, none⟩ = some (.int .i64 a0_1) := (blk_cell BK103.out 1).trans rfl; have hfz12_0 := blk_frozen BK103.out 0; have hfz12_1 := blk_frozen BK103.out 1))
      go_ret
      exact ⟨by first | rfl | (simp [errW_none, errW_some] <;> rfl) | (simp only [← hji5]; first | rfl | (simp [errW_none, errW_some] <;> rfl)) | (simp [*, errW_none, errW_some] <;> rfl), by repeat (first | (with_reducible first | exact HB.out | apply below_alloc | apply pw_below_drewN | apply below_drew1 | refine below_set ?_ GE103.out) | exact HB.out)⟩
    rw [if_pos c6] at H
    have c6b0 : decide ((wrap64 (a1 + (ji5))) ≤ a0_1) = true := decide_eq_true c6
    clear c6
    replace H := Option.bind_eq_some_iff.mp H
    obtain ⟨t104, A70, H⟩ := H
    replace H : (some (decide (t104 < 0))) = some r := H
    have A7 := Aside0.mk A70
    clear A70
    obtain rfl := Option.some.inj H
    go_enter Try.func29, Try.ntmps29
    go_wp2_with (first | ((with_reducible refine gate_dst (N := 3) rfl ?_); refine box_event ?hg (N := 3) ?hd (cs := #[.slice A0_0 l0_0.length c0_0, .int .i64 a0_1]) (t := 45) ?hr ?_; (case hd => rfl); (case hg => rfl); (case hr => go_simp; first | done | rfl); intro gb103 hg w8 hbox hb; have n0_ := Aside0.mk (below_step (by repeat (first | (with_reducible first | exact HB.out | apply below_alloc | apply pw_below_drewN | apply below_drew1) | exact HB.out)) hb); have n1_ := Aside0.mk (hbox); have n2_ := Aside0.mk ((by rw [hg]; exact (below_size (by repeat (first | (with_reducible first | exact HB.out | apply below_alloc | apply pw_below_drewN | apply below_drew1) | exact HB.out))) : w.heap.size ≤ gb103)); have n3_ := Aside0.mk ((by rw [hg]; exact (below_size (by repeat (first | (with_reducible first | exact HB.out | apply below_alloc | apply pw_below_drewN | apply below_drew1) | exact HB.out))) : w.heap.size ≤ gb103)); clear HB; have HB := n0_; have BK103 := n1_; have GW103 := n2_; have GE103 := n3_; clear n0_ n1_ n2_ n3_; clear hb hbox hg; have hcz9_0 : w8.cell? ⟨gb103, 0, none⟩ = some (.slice A0_0 l0_0.length c0_0) := (blk_cell BK103.out 0).trans rfl; have hcz9_1 : w8.cell? ⟨gb103, 1, none⟩ = some (.int .i64 a0_1) := (blk_cell BK103.out 1).trans rfl; have hfz9_0 := blk_frozen BK103.out 0; have hfz9_1 := blk_frozen BK103.out 1) | (go_at_call 31; (with_reducible refine (bits_First.calls k _ _ l0_0 a1 (wrap64 (a1 + (ji5))) true t104 _ ?side1 ?side2 A7.out).mono ?_); (case side1 => repeat (first | exact (Kd.C_below HR0_0.out HB.out) | (with_reducible refine Kd.C_alloc ?_ _) | (with_reducible refine Kd.C_drewN ?_ _) | (with_reducible refine Kd.C_drew ?_))); (case side2 => exact HC0_0.out); rintro e w10 ⟨rfl, hb⟩; have n0_ := Aside0.mk (blk_below (g := gb103) (o := .cells #[.slice A0_0 l0_0.length c0_0, .int .i64 a0_1] 45 (0, 0)) (by (with_reducible repeat (first | refine blk_drewN ?_ _ | refine blk_drew ?_ | refine blk_alloc ?_ _)); exact BK103.out) hb); have n1_ := Aside0.mk (below_step (by repeat (first | (with_reducible first | exact HB.out | apply below_alloc | apply pw_below_drewN | apply below_drew1 | refine below_set ?_ GE103.out) | exact HB.out)) hb); clear BK103; clear HB; have BK103 := n0_; have HB := n1_; clear n0_ n1_; (try clear hb); (try clear hb2); (try clear hk); (try clear hi)))
    go_ret
    exact ⟨by first | rfl | (simp [errW_none, errW_some] <;> rfl) | (simp only [← hji5]; first | rfl | (simp [errW_none, errW_some] <;> rfl)) | (simp [*, errW_none, errW_some] <;> rfl), by repeat (first | (with_reducible first | exact HB.out | apply below_alloc | apply pw_below_drewN | apply below_drew1 | refine below_set ?_ GE103.out) | exact HB.out)⟩
  · rw [if_neg c4] at H
    exact absurd H (by simp)

end Go.Proofs.Ytlhpejdbmbpmhaa.U
