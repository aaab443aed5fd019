/- Written by uprint.py (ours) for this seat: functions of the translation as Lean functions, and what their calls do. Not trusted: Lean checks it. -/
import Derived.Test.YtlhpejdbmbpmhaaUx0
import Derived.Test.YtlhpejdbmbpmhaaUx2
import Derived.Test.YtlhpejdbmbpmhaaUx4
namespace Go.Proofs.Ytlhpejdbmbpmhaa.U
open Go.RowKit Go.Proofs.YtlhpejdbmbpmhaaW.PrintWords Go.Proofs.YtlhpejdbmbpmhaaW.PrintLast Go.Proofs.YtlhpejdbmbpmhaaW.PrintMore
attribute [local go_sem] max2_int min2_int max_two min_two max_three min_three max_four min_four   -- for this text's walks alone
set_option linter.unusedVariables false
set_option linter.unusedSimpArgs false

/-! ### bits_Fill: function 24 (given) -/
/-- A round's byte behind it. -/
def bits_Fill.z (l : List Int) (b : Int) (v : Bool) (f : Int) : Int := if v = true then Go.bits .or .u8 (Go.bits .andNot .u8 (rd l (f / 8)) (bits_each.mask b f)) (bits_each.mask b f) else Go.bits .andNot .u8 (rd l (f / 8)) (bits_each.mask b f)
def bits_Fill.l0 : Nat → List Int → Int → Bool → Int → Option (List Int)
  | 0, _, _, _, _ => none
  | k + 1, l, b, v, f => if f < b then (if f / 8 < (l.length : Int) then bits_Fill.l0 k (l.set (f / 8).toNat (bits_Fill.z l b v f)) b v (bits_each.fin b f) else none) else some l
def bits_Fill.f (k : Nat) (l0 : List Int) (a1 a2 : Int) (a3 : Bool) : Option (List Int) := (slices_Clone_byte_byte.f l0).bind fun c => bits_Fill.l0 k c (mn a2 (wrap64 (8 * (l0.length : Int)))) a3 (mx a1 0)
theorem bits_Fill.mono_l : ∀ (k : Nat) (l : List Int) (b : Int) (v : Bool) (f : Int), LeO (bits_Fill.l0 k l b v f) (bits_Fill.l0 (k + 1) l b v f)
  | 0, _, _, _, _ => fun r h => by simp [bits_Fill.l0] at h
  | k + 1, l, b, v, f => by
    rw [bits_Fill.l0, bits_Fill.l0]
    exact LeO.ite (LeO.ite (bits_Fill.mono_l k _ _ _ _) (LeO.refl _)) (LeO.refl _)
theorem bits_Fill.mono : ∀ a0 a1 a2 a3 k, LeO (bits_Fill.f k a0 a1 a2 a3) (bits_Fill.f (k + 1) a0 a1 a2 a3) := by
  intro a0 a1 a2 a3 k
  unfold bits_Fill.f
  exact LeO.bind (LeO.refl _) fun c => bits_Fill.mono_l _ _ _ _ _
/-- What the boxes and the new row hold between two rounds. -/
def bits_Fill.I (b : Int) (v : Bool) (r : List Int) (vo : Value) (G : Nat) (w : World) (s : Int) (W : World) : Prop :=
  ∃ (k : Nat) (l : List Int), bits_Fill.l0 k l b v s = some r ∧ X.Blk W w.heap.size #[.bool v] 4 ∧ X.Blk W G #[vo] 22 ∧ Kd.R (Kd.int .u8) 5 W (w.heap.size + 1) (fun k => w.heap.size + 1 ≤ k ∧ k < G) vo l ∧ Below w.heap.size w W
section
attribute [local go_sem] Oper.semAt_some
set_option maxHeartbeats 1000000 in
set_option maxRecDepth 100000 in
theorem bits_Fill.calls (k : Nat) (A0 : Option Addr) (c0 : Nat) (l0 : List Int) (a1 : Int) (a2 : Int) (a3 : Bool) (r : List Int) (w : World) (hr0 : Kd.C (Kd.int .u8) w A0 l0.length l0) (hc0 : l0.length ≤ c0) (h : bits_Fill.f k l0 a1 a2 a3 = some r) :
    Calls Try.prog 24 #[.slice A0 l0.length c0, .int .i64 a1, .int .i64 a2, .bool a3] w fun e w' => ∃ v0_ : Value, e = .returned (v0_) ∧ Kd.R (Kd.int .u8) 5 w' w.heap.size (fun _ => True) v0_ r ∧ Below w.heap.size w w' := by
  unfold bits_Fill.f at h
  obtain ⟨cl, hcl, h⟩ := Option.bind_eq_some_iff.1 h
  have hlen : l0.length ≤ 140737488351232 ∧ cl = l0 := by
    unfold slices_Clone_byte_byte.f at hcl
    split at hcl
    · exact ⟨by assumption, (Option.some.inj hcl).symm⟩
    · cases hcl
  obtain ⟨hlen, rfl⟩ := hlen
  have hb0 : mn a2 (wrap64 (8 * (cl.length : Int))) ≤ 1152921504606846976 := by unfold mn wrap64; omega
  have ha0 : 0 ≤ mx a1 0 := by unfold mx; omega
  obtain ⟨b, hb⟩ : ∃ b, mn a2 (wrap64 (8 * (cl.length : Int))) = b := ⟨_, rfl⟩
  obtain ⟨s0, hs0⟩ : ∃ s, mx a1 0 = s := ⟨_, rfl⟩
  rw [hb] at h hb0
  rw [hs0] at h ha0
  have HR0 := Aside0.mk hr0
  have HC0 := Aside0.mk hc0
  have H := Aside0.mk h
  have HCL := Aside0.mk hcl
  have HBE := Aside0.mk hb
  have HSE := Aside0.mk hs0
  clear hr0 hc0 h hcl hb hs0
  have h1 := Aside0.mk (X.Blk.new w #[.bool a3] 4)
  refine (callsIn_wide (n := 5)).1 ?_
  refine callsIn_of_wp_marks Try.func24 rfl trivial ?_ rfl
  simp only [Try.ntmps24, List.size_toArray, List.length_cons, List.length_nil, Nat.reduceAdd, Nat.reduceSub, Array.replicate_succ, Array.replicate_zero, List.push_toArray, List.append_toArray, List.nil_append, List.cons_append]
  gi_wp2_with fail
  refine ⟨trivial, (callsIn_wide.2 (slices_Clone_byte_byte.calls A0 c0 cl cl _ (Kd.C_alloc HR0.out _) HC0.out HCL.out)).mono ?_⟩
  rintro e w0 ⟨vo, rfl, hR, hbel⟩
  have hv0 := h1.out.below hbel h1.out.lt
  have hB0 : Below w.heap.size w w0 := ((Below.refl _ w).alloc (Nat.le_refl _) (.cells #[.bool a3] 4 (0, 0))).trans (hbel.mono (by simp))
  have hsz := hbel.size
  simp only [World.size_alloc] at hsz hR
  obtain ⟨Ao, co, rfl⟩ := Kd.R_slice hR
  have hR' : Kd.R (Kd.int .u8) 5 w0 (w.heap.size + 1) (fun k => w.heap.size + 1 ≤ k ∧ k < w0.heap.size) (.slice Ao cl.length co) cl := Kd.R_mono (Kd.R_bound hR) (fun k hk => ⟨hk.2.1, hk.2.2.1⟩)
  have hv1 := Aside0.mk (hv0.alloc (.cells #[.slice Ao cl.length co] 22 (0, 0)))
  have ho1 := Aside0.mk (X.Blk.new w0 #[.slice Ao cl.length co] 22)
  have hR1 := Aside0.mk (Kd.R_alloc hR' (.cells #[.slice Ao cl.length co] 22 (0, 0)))
  have HB0 := Aside0.mk hB0
  clear hv0 hB0 hbel hR hR' h1
  gi_wp2_with fail
  refine ⟨trivial, (callsIn_wide.2 (bits_each.calls A0 c0 cl a1 a2 _ (Kd.C_alloc (Kd.C_below HR0.out HB0.out) _) HC0.out)).mono ?_⟩
  rintro e w1 ⟨Bf, Bt, rfl, hF, hT, hne, hf1, hf2, hbel⟩
  rw [HBE.out] at hT
  rw [HSE.out] at hF
  have hm1 := hv1.out.below hbel hv1.out.lt
  have hn1 := ho1.out.below hbel ho1.out.lt
  have hr1 := Kd.R_below hR1.out hbel
  have hB1 : Below w.heap.size w w1 := (HB0.out.alloc HB0.out.size _).trans (hbel.mono (by have := HB0.out.size; simp; omega))
  simp only [World.size_alloc] at hf1 hf2
  have hgf := hF.lt
  have hgt := hT.lt
  clear hbel hv1 ho1 hR1 HB0
  have HSEQ := Aside0.mk (bits_each.seq 4 (by decide) s0 b Bf Bt hne ha0 hb0 w1 hF hT)
  have HI : Aside0 (bits_Fill.I b a3 r (.slice Ao cl.length co) w0.heap.size w s0 w1) := ⟨⟨k, cl, H.out, hm1, hn1, hr1, hB1⟩⟩
  clear hF hT hm1 hn1 hr1 hB1 H
  gi_wp2
  refine X.wpIn_range_box rfl (by decide) (gf := 43) (lb := #[.pointer (some ⟨Bf, 0, none⟩), .pointer (some ⟨Bt, 0, none⟩)]) rfl trivial (enters_of Try.func43 (by kernel_rfl) rfl) HSEQ.out hgf
    (by rintro x (rfl | rfl) <;> assumption) (fun _ => rfl) (bits_Fill.I b a3 r (.slice Ao cl.length co) w0.heap.size w) (fun _ _ => False) ?hI (fun _ _ _ h _ => h) HI.out ?a1 ?assign ?body ?done (fun _ _ _ _ h _ => h.elim)
  case hI =>
    rintro s X Y ⟨k, l, h1, h2, h3, h4, h5⟩ hs
    exact ⟨k, l, h1, (hs.block _ (by omega) (by omega)).trans h2, (hs.block _ (by omega) (by omega)).trans h3, Kd.R_move h4 (fun k hk => hs.block k (by omega) (by omega)), hs.below h5 (by omega) (by omega)⟩
  case assign =>
    intro l s W K hK
    gi_wp2
    exact hK
  case body =>
    rintro l s W ⟨h0, hlt⟩ ⟨k, xs, hl, hBv, hBo, hR, hB⟩
    cases k with
    | zero => simp [bits_Fill.l0] at hl
    | succ k =>
      rw [bits_Fill.l0, if_pos hlt] at hl
      by_cases hi : s / 8 < (xs.length : Int)
      rotate_left
      · rw [if_neg hi] at hl
        cases hl
      rw [if_pos hi] at hl
      have hxl : cl.length = xs.length := (Kd.R_reads' hR).1
      obtain ⟨g, cap, heq, hg1, hg2, _⟩ := Kd.R_form hR (by omega)
      rw [hxl] at heq
      injection heq with ea en ec
      subst ea
      clear en ec
      have hg3 := hR.1 g rfl
      have hiq : s / 8 < (cl.length : Int) := by omega
      obtain ⟨hx, hfx⟩ := Kd.R_celln 0 hR (s / 8) (by omega) hiq
      have hcv := hBv.cell 0 (.bool a3) rfl
      have hco := hBo.cell 0 (.slice (some ⟨g, 0, none⟩) cl.length co) rfl
      have p0 : 0 ≤ s / 8 := by omega
      have step : ∀ (Y : World) (ys : List Int) (z : Int), X.Blk Y w.heap.size #[.bool a3] 4 → X.Blk Y w0.heap.size #[.slice (some ⟨g, 0, none⟩) cl.length co] 22 → Kd.R (Kd.int .u8) 5 Y (w.heap.size + 1) (fun k => w.heap.size + 1 ≤ k ∧ k < w0.heap.size) (.slice (some ⟨g, 0, none⟩) cl.length co) ys → Below w.heap.size w Y →
          X.Blk (Y.setCell ⟨g, (s / 8).toNat, none⟩ (.int .u8 z)) w.heap.size #[.bool a3] 4 ∧ X.Blk (Y.setCell ⟨g, (s / 8).toNat, none⟩ (.int .u8 z)) w0.heap.size #[.slice (some ⟨g, 0, none⟩) cl.length co] 22 ∧
          Kd.R (Kd.int .u8) 5 (Y.setCell ⟨g, (s / 8).toNat, none⟩ (.int .u8 z)) (w.heap.size + 1) (fun k => w.heap.size + 1 ≤ k ∧ k < w0.heap.size) (.slice (some ⟨g, 0, none⟩) cl.length co) (ys.set (s / 8).toNat z) ∧ Below w.heap.size w (Y.setCell ⟨g, (s / 8).toNat, none⟩ (.int .u8 z)) ∧
          KeepsFrom w1.heap.size Y (Y.setCell ⟨g, (s / 8).toNat, none⟩ (.int .u8 z)) ∧ (∀ x, x = Bf ∨ x = Bt → (Y.setCell ⟨g, (s / 8).toNat, none⟩ (.int .u8 z)).heap[x]? = Y.heap[x]?) := by
        intro Y ys z e1 e2 e3 e4
        exact ⟨e1.other (by omega) _ _, e2.other (by omega) _ _, (Kd.R_putg e3 (s / 8) z).1, e4.setCell (p := ⟨g, (s / 8).toNat, none⟩) (by simp; omega) _, (KeepsOthers.setCell _ _ _).from _, fun x hx => (X.Same.setCell (x + 1) g Y (s / 8).toNat _).block x (by omega) (by omega)⟩
      have hxt : (s / 8).toNat < xs.length := by omega
      have fin1 : ∀ (a' : Act) (z : Int), bits_Fill.l0 k (xs.set (s / 8).toNat z) b a3 (bits_each.fin b s) = some r → X.boxPost w1.heap.size (fun x => x = Bf ∨ x = Bt) (bits_Fill.I b a3 r (.slice (some ⟨g, 0, none⟩) cl.length co) w0.heap.size w (bits_each.fin b s)) (fun _ _ => False) W .normal a' (W.setCell ⟨g, (s / 8).toNat, none⟩ (.int .u8 z)) := by
        intro a' z hz
        obtain ⟨e1, e2, e3, e4, e5, e6⟩ := step W xs z hBv hBo hR hB
        exact ⟨e5, e6, k, _, hz, e1, e2, e3, e4⟩
      have fin2 : ∀ (a' : Act) (z z' : Int), bits_Fill.l0 k (xs.set (s / 8).toNat z') b a3 (bits_each.fin b s) = some r → X.boxPost w1.heap.size (fun x => x = Bf ∨ x = Bt) (bits_Fill.I b a3 r (.slice (some ⟨g, 0, none⟩) cl.length co) w0.heap.size w (bits_each.fin b s)) (fun _ _ => False) W .normal a' ((W.setCell ⟨g, (s / 8).toNat, none⟩ (.int .u8 z)).setCell ⟨g, (s / 8).toNat, none⟩ (.int .u8 z')) := by
        intro a' z z' hz
        obtain ⟨e1, e2, e3, e4, e5, e6⟩ := step W xs z hBv hBo hR hB
        obtain ⟨i1, i2, i3, i4, i5, i6⟩ := step _ _ z' e1 e2 e3 e4
        rw [List.set_set] at i3
        exact ⟨e5.trans i5, fun x hx => (i6 x hx).trans (e6 x hx), k, _, hz, i1, i2, i3, i4⟩
      have cell2 : ∀ z : Int, (W.setCell ⟨g, (s / 8).toNat, none⟩ (.int .u8 z)).cell? ⟨g, (s / 8).toNat, none⟩ = some (.int .u8 z) ∧ (W.setCell ⟨g, (s / 8).toNat, none⟩ (.int .u8 z)).frozen? ⟨g, (s / 8).toNat, none⟩ = false ∧ (W.setCell ⟨g, (s / 8).toNat, none⟩ (.int .u8 z)).cell? ⟨w0.heap.size, 0, none⟩ = some (.slice (some ⟨g, 0, none⟩) cl.length co) ∧ (W.setCell ⟨g, (s / 8).toNat, none⟩ (.int .u8 z)).cell? ⟨w.heap.size, 0, none⟩ = some (.bool a3) := by
        intro z
        obtain ⟨e1, e2, e3, e4, e5, e6⟩ := step W xs z hBv hBo hR hB
        obtain ⟨q1, q2⟩ := Kd.R_celln 0 e3 (s / 8) (by omega) hiq
        refine ⟨?_, q2, e2.cell 0 _ rfl, e1.cell 0 _ rfl⟩
        rw [q1]
        congr 2
        show (xs.set (s / 8).toNat z).getD (s / 8).toNat 0 = z
        simp [hxt]
      have HF1 := Aside0.mk fin1
      have HF2 := Aside0.mk fin2
      have HL := Aside0.mk hl
      clear fin1 fin2 hl step hBv hBo hR hB hlt HSEQ HI HC0 HBE HSE hne hf1 hf2 hgf hgt ha0 hb0 h0 HR0 hxt hxl
      cases a3
      · clear cell2 HF2
        gi_wp2
        exact HF1.out _ _ HL.out
      · obtain ⟨x1, x2, x3, x4⟩ := cell2 (Go.bits .andNot .u8 (rd xs (s / 8)) (bits_each.mask b s))
        clear cell2 HF1
        gi_wp2
        exact HF2.out _ _ _ HL.out
  case done =>
    rintro D s W hD hS ⟨k, xs, hl, hBv, hBo, hR, hB⟩ hK
    cases k with
    | zero => simp [bits_Fill.l0] at hl
    | succ k =>
      rw [bits_Fill.l0, if_neg (by omega)] at hl
      obtain rfl := Option.some.inj hl
      have hco := hBo.cell 0 (.slice Ao cl.length co) rfl
      clear hl
      gi_wp2
      refine ⟨by simp, .inl ⟨_, _, rfl, run_takeDeferred hK, ?_⟩⟩
      refine ⟨_, results_tmp rfl _ _ _, _, rfl, Kd.R_mono (Kd.R_lower (Kd.R_move hR (fun k hk => World.putObj_heap_other (by omega))) (Nat.le_succ _)) (fun _ _ => trivial), (X.Same.putObj w.heap.size (w.heap.size + D) W D _ (by omega)).below hB (Nat.le_refl _) (by omega)⟩
end

end Go.Proofs.Ytlhpejdbmbpmhaa.U
