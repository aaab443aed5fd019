/- Ux1: what this claim uses. Laid by slim.py (ours). -/
import Derived.Test.YtlbfpjhnpnbikaaKUx0
namespace Go.Proofs.Ytlbfpjhnpnbikaa.U
open Go.RowKit Go.Proofs.YtlbfpjhnpnbikaaW.PrintWords Go.Proofs.YtlbfpjhnpnbikaaW.PrintLast Go.Proofs.YtlbfpjhnpnbikaaW.PrintMore
attribute [local go_sem] max2_int min2_int max_two min_two max_three min_three max_four min_four
set_option linter.unusedVariables false
set_option linter.unusedSimpArgs false
def Made (w : World) (v : Value) (e : Ending) (w' : World) : Prop := ∃ p gl gg : Nat, e = .returned (.pointer (some ⟨p, 0, none⟩)) ∧ w.heap.size ≤ p ∧ w.heap.size ≤ gl ∧ w.heap.size ≤ gg ∧ gl ≠ gg ∧ X.Blk w' p #[v, .slice none 0 0, .map (some gl), .map (some gg), .bool false, .int .i64 0] 83 ∧
  X.IMap Try.prog 3 w' gl (fun _ => none) ∧ X.IMap Try.prog 3 w' gg (fun _ => none) ∧ Below w.heap.size w w'
theorem disk_made.calls (A : Option Addr) (m c : Nat) (w : World) : Calls Try.prog 34 #[.slice A m c] w (Made w (.slice A m c)) := by
  have hmm := @run_makeMap Try.prog
  go_enter Try.func34, Try.ntmps34
  go_wp2
  go_ret
  have hb1 := (Below.refl w.heap.size w).alloc (Nat.le_refl _) (.map #[] 0)
  refine ⟨w.heap.size + 1 + 1, w.heap.size, w.heap.size + 1, rfl, by omega, Nat.le_refl _, by omega, by omega, ?_, ?_, ?_, ?_⟩
  · have := X.Blk.new ((w.alloc (.map #[] 0)).alloc (.map #[] 0)) #[.slice A m c, .slice none 0 0, .map (some w.heap.size), .map (some (w.heap.size + 1)), .bool false, .int .i64 0] 83
    simpa using this
  · exact ((X.IMap.made w).move (w' := (w.alloc (.map #[] 0)).alloc (.map #[] 0)) (heap_alloc_old (w.alloc (.map #[] 0)) _ (by simp))).move (heap_alloc_old ((w.alloc (.map #[] 0)).alloc (.map #[] 0)) _ (by simp; omega))
  · have := X.IMap.made (P := Try.prog) (K := 3) (w.alloc (.map #[] 0))
    rw [show (w.alloc (.map #[] 0)).heap.size = w.heap.size + 1 from by simp] at this
    exact this.move (heap_alloc_old ((w.alloc (.map #[] 0)).alloc (.map #[] 0)) _ (by simp))
  · exact ((hb1.alloc hb1.size _).alloc (by simp; omega) _)
theorem made_pd {w w1 w' : World} {v : Value} {xs : List Int} {n : Nat} {e : Ending} (h : Made w1 v e w') (hs : (Kd.int .u8).R 5 w1 w.heap.size (fun _ => True) v xs) (hb : Below w.heap.size w w1) (hok : (X.DS.new xs).Ok n) :
    ∃ p, e = .returned (.pointer (some ⟨p, 0, none⟩)) ∧ w.heap.size ≤ p ∧ X.PD w' p (fun k => w.heap.size ≤ k ∧ k < w'.heap.size) (fun _ => False) n (X.DS.new xs) ∧ Below w.heap.size w w' := by
  obtain ⟨p, gl, gg, rfl, h1, h2, h3, h4, h5, h6, h7, h8⟩ := h
  have hz := hb.size
  exact ⟨p, rfl, by omega, X.PD.fresh h5 h6 h7 h4 (Kd.R_below hs h8) (by omega) (by omega) (by omega) hok, hb.trans (h8.mono hz)⟩
def NewPost (w : World) (n : Nat) (e : Ending) (w' : World) : Prop := ∃ p, e = .returned (.tuple #[.pointer (some ⟨p, 0, none⟩), .int .i64 0]) ∧ w.heap.size ≤ p ∧ X.PD w' p (fun k => w.heap.size ≤ k ∧ k < w'.heap.size) (fun _ => False) n (X.DS.new (List.replicate (256 * n) 0)) ∧ Below w.heap.size w w'
theorem disk_New.calls (n : Nat) (w : World) (h1 : 1 ≤ n) (h2 : n ≤ 1024) : Calls Try.prog 11 #[.int .i64 (n : Int)] w (NewPost w n) := by
  have q1 : decide ((n : Int) < 1) = false := decide_eq_false (by omega)
  have q2 : decide ((1024 : Int) < (n : Int)) = false := decide_eq_false (by omega)
  have q3 : decide (n < 1) = false := decide_eq_false (by omega)
  have q4 : decide (1024 < n) = false := decide_eq_false (by omega)
  go_enter Try.func11, Try.ntmps11
  go_wp2_with ((with_reducible refine gate_ (.makeSlice 22 (.tmp 11) (.tmp 11)) rfl ?_); (refine Kd.R_make (Kd.int .u8) (w0 := w) w.heap.size 5 rfl rfl 22 (.tmp 11) (.tmp 11) rfl ((n : Int) * 256) rfl rfl Try.underlying22 (.int .u8 0) 1 info5 rfl (by decide) (by omega) 0 (ok := fun _ => True) (okp := fun _ => False) rfl (fun _ h => h.elim) trivial (by omega) (by omega) (Below.refl _ _) (Nat.le_refl _) ?_); intro v1 w1 hr1 hb1 hg1 hv1; have HR := Aside0.mk hr1; have HB := Aside0.mk hb1; clear hr1 hb1 hg1 hv1; obtain ⟨A, c, e1⟩ := Kd.R_slice HR.out; subst e1)
  refine (disk_made.calls _ _ _ _).mono ?_
  intro e w2 hm
  have e1 : ((n : Int) * 256).toNat = 256 * n := by omega
  have e2 : (List.replicate ((n : Int) * 256).toNat (0 : Int)).length = n * 256 := by rw [List.length_replicate]; omega
  have hR := HR.out
  rw [e2, e1] at hR
  obtain ⟨p, rfl, hp, hpd, hbl⟩ := made_pd (n := n) hm hR HB.out (X.DS.new_ok (n := n) (by rw [List.length_replicate]) h1 h2 (X.u8all_iff.2 (fun c hc => by rw [(List.mem_replicate.1 hc).2]; decide)))
  have HPD := Aside0.mk hpd
  have HBL := Aside0.mk hbl
  clear hpd hbl hm hR HR HB
  go_wp2
  go_ret2
  exact ⟨p, rfl, hp, HPD.out, HBL.out⟩
theorem disk_New_no.calls (n : Int) (w : World) (h : n < 1 ∨ 1024 < n) : Calls Try.prog 11 #[.int .i64 n] w fun e w' => e = .returned (.tuple #[.pointer none, .int .i64 1]) ∧ w = w' := by
  rcases h with h | h
  · have q1 : decide (n < 1) = true := decide_eq_true h
    go_enter Try.func11, Try.ntmps11
    go_wp2
    go_ret2
    exact ⟨rfl, rfl⟩
  · have q1 : decide (n < 1) = false := decide_eq_false (by omega)
    have q2 : decide (1024 < n) = true := decide_eq_true h
    go_enter Try.func11, Try.ntmps11
    go_wp2
    go_ret2
    exact ⟨rfl, rfl⟩
theorem disk_New.part (w0 w : World) (L : List X.Res) (n : Nat) (h : X.Lies w0 w L) (h1 : 1 ≤ n) (h2 : n ≤ 1024) : Calls Try.prog 11 #[.int .i64 (n : Int)] w fun e w' =>
    ∃ p, e = .returned (.tuple #[.pointer (some ⟨p, 0, none⟩), .int .i64 0]) ∧ X.Lies w0 w' (.disk p n (X.DS.new (List.replicate (256 * n) 0)) :: L) := by
  refine (disk_New.calls n w h1 h2).mono ?_
  rintro e w' ⟨p, he, hp, hpd, hb⟩
  exact ⟨p, he, h.new (O := fun k => w.heap.size ≤ k ∧ k < w'.heap.size) (S := fun _ => False) hb ⟨_, _, hpd, fun _ h => h, fun _ h => h⟩ (fun _ h => h) (fun _ h => h.elim) (fun _ _ h => h)⟩
theorem disk_Size.calls (p : Nat) (A : Option Addr) (n c : Nat) (c1 c2 c3 c4 c5 : Value) (w : World) (hb : X.Blk w p #[.slice A (256 * n) c, c1, c2, c3, c4, c5] 83) (hn : n ≤ 1024) :
    Calls Try.prog 47 #[.pointer (some ⟨p, 0, none⟩)] w fun e w' => e = .returned (.int .i64 (n : Int)) ∧ w = w' := by
  have h0 := hb.cell 0 _ rfl
  clear hb
  go_enter Try.func47, Try.ntmps47
  go_wp2
  go_ret
  refine ⟨?_, rfl⟩
  first | rfl | (congr 2; done) | (congr 2; omega)
theorem disk_Size.part (w0 w : World) (L : List X.Res) (p n : Nat) (s : X.DS) (h : X.Lies w0 w (.disk p n s :: L)) :
    Calls Try.prog 47 #[.pointer (some ⟨p, 0, none⟩)] w fun e w' => e = .returned (.int .i64 (n : Int)) ∧ w = w' := by
  obtain ⟨F, G, ⟨sv, pv, gl, gg, fg, hp⟩, -⟩ := h.disk
  obtain ⟨A, c, e1⟩ := Kd.R_slice hp.st
  rw [hp.ok.len] at e1
  subst e1
  exact disk_Size.calls p A n c _ _ _ _ _ w hp.box hp.ok.n2
def hasB (i : Int) (n : Nat) : Bool := decide (0 ≤ i ∧ i < (n : Int))
theorem disk_has.calls (p : Nat) (A : Option Addr) (n c : Nat) (c1 c2 c3 c4 c5 : Value) (i : Int) (w : World) (hb : X.Blk w p #[.slice A (256 * n) c, c1, c2, c3, c4, c5] 83) (hn : n ≤ 1024) :
    Calls Try.prog 35 #[.pointer (some ⟨p, 0, none⟩), .int .i64 i] w fun e w' => e = .returned (.bool (hasB i n)) ∧ w = w' := by
  have HB := Aside0.mk hb
  clear hb
  by_cases h0 : 0 ≤ i
  · have q0 : decide (0 ≤ i) = true := decide_eq_true h0
    by_cases h1 : i < (n : Int)
    · have q1 : decide (i < (n : Int)) = true := decide_eq_true h1
      have HR : Aside0 (hasB i n = true) := ⟨decide_eq_true ⟨h0, h1⟩⟩
      go_enter Try.func35, Try.ntmps35
      go_wp2_with ((go_at_call 47; (with_reducible refine (disk_Size.calls p A n c c1 c2 c3 c4 c5 w HB.out hn).mono ?_); rintro e w' ⟨rfl, rfl⟩))
      go_ret
      exact ⟨by rw [HR.out]; rfl, rfl⟩
    · have q1 : decide (i < (n : Int)) = false := decide_eq_false h1
      have HR : Aside0 (hasB i n = false) := ⟨decide_eq_false (fun h => h1 h.2)⟩
      go_enter Try.func35, Try.ntmps35
      go_wp2_with ((go_at_call 47; (with_reducible refine (disk_Size.calls p A n c c1 c2 c3 c4 c5 w HB.out hn).mono ?_); rintro e w' ⟨rfl, rfl⟩))
      go_ret
      exact ⟨by rw [HR.out]; rfl, rfl⟩
  · have q0 : decide (0 ≤ i) = false := decide_eq_false h0
    have HR : Aside0 (hasB i n = false) := ⟨decide_eq_false (fun h => h0 h.1)⟩
    go_enter Try.func35, Try.ntmps35
    go_wp2
    go_ret
    exact ⟨by rw [HR.out]; rfl, rfl⟩
def slices_Clone_byte_byte.f (l0 : List Int) : Option (List Int) := if l0.length ≤ 140737488351232 then some l0 else none
set_option maxHeartbeats 400000 in
set_option maxRecDepth 100000 in
theorem slices_Clone_byte_byte.calls (A0 : Option Addr) (c0 : Nat) (l0 : List Int) (r : List Int) (w : World) (hr0 : Kd.C (Kd.int .u8) w A0 l0.length l0) (hc0 : l0.length ≤ c0) (h : slices_Clone_byte_byte.f l0 = some r) :
    Calls Try.prog 37 #[.slice A0 l0.length c0] w fun e w' => ∃ v0_ : Value, e = .returned (v0_) ∧ Kd.R (Kd.int .u8) 5 w' w.heap.size (fun _ => True) v0_ r ∧ Below w.heap.size w w' := by
  unfold slices_Clone_byte_byte.f at h
  by_cases hlen : l0.length ≤ 140737488351232
  · rw [if_pos hlen] at h
    obtain rfl := Option.some.inj h
    have hn := Lib.run_eql_slice_nil (P := Try.prog)
    have HR := Aside0.mk hr0
    clear hr0
    cases A0 with
    | none =>
      have hz : l0 = [] := by
        rcases Nat.eq_zero_or_pos l0.length with h0 | h0
        · exact List.eq_nil_of_length_eq_zero h0
        · obtain ⟨ad, e, _⟩ := HR.out.2.2 h0
          cases e
      have HZ := Aside0.mk hz
      clear hz
      have hk := fun w => hn w 22 5 none l0.length c0 0 0 Try.underlying22
      clear hn
      go_enter Try.func37, Try.ntmps37
      go_wp2
      go_ret
      exact ⟨_, rfl, by rw [HZ.out]; exact Kd.R_nil _ _ _ _ _, Below.refl _ _⟩
    | some ad =>
      have hk := fun w => hn w 22 5 (some ad) l0.length c0 0 0 Try.underlying22
      clear hn
      go_enter Try.func37, Try.ntmps37
      go_wp2_with (first | ((with_reducible refine gate_dst (N := 5) rfl ?_); refine Kd.R_lit (Kd.int .u8) _ 5 ?hg (N := 5) ?hd (xs := ([] : List Int)) (inner := []) (ok := fun _ => True) (okp := fun _ => True) ?hr ?hp (fun _ hk => hk) trivial (Below.refl _ _) (Nat.le_refl _) (by simp) ?_; (case hd => rfl); (case hg => rfl); (case hr => first | (go_simp; done) | (go_simp; rfl)); (case hp => exact (Reps.none _ _)); intro v1 w1 ho1 hb1 hg_ hnew_; have HO1 := Aside0.mk ho1; have HB1 := Aside0.mk hb1; clear hg_ hnew_ ho1 hb1) | ((with_reducible refine gate_builtin (b := .append) (xs := #[.tmp 5, .tmp 6]) rfl ?_); at_builtin; refine Kd.R_append_row (Value.int .u8) (0 : Int) (w0 := w) w.heap.size rfl (.tmp 5) (.tmp 6) 22 5 (.int .u8 0) 1 rfl Try.underlying22 info5 rfl (by decide) v1 [] l0 (some ad) l0.length c0 (fun _ => True) rfl rfl (fun _ _ => trivial) HO1.out (Kd.C_below HR.out HB1.out) HB1.out HB1.out.size (by simp; omega) ?_; intro v2 w2 ho2 hb2 hg2 hat2; have HO2 := Aside0.mk ho2; have HB2 := Aside0.mk hb2; clear ho2 hb2 hg2 hat2))
      go_ret
      exact ⟨_, rfl, by have := HO2.out; rw [List.nil_append] at this; exact this, HB2.out⟩
  · rw [if_neg hlen] at h
    exact absurd h (by simp)
theorem disk_at.calls (p g n c i : Nat) (c1 c2 c3 c4 c5 : Value) (w : World) (hb : X.Blk w p #[.slice (some ⟨g, 0, none⟩) (256 * n) c, c1, c2, c3, c4, c5] 83) (hn : n ≤ 1024) (hi : i < n) (hc : 256 * n ≤ c) :
    Calls Try.prog 66 #[.pointer (some ⟨p, 0, none⟩), .int .i64 (i : Int)] w fun e w' => e = .returned (.slice (some ⟨g, 256 * i, none⟩) 256 (c - 256 * i)) ∧ w = w' := by
  have h0 := hb.cell 0 _ rfl
  clear hb
  have hrun : (Instr.slice 22 (.slice (some ⟨g, 0, none⟩) (256 * n) c) (some (.int .i64 ((i : Int) * 256))) (some (.int .i64 (((i : Int) + 1) * 256))) none).run Try.prog w = .ok (.slice (some ⟨g, 256 * i, none⟩) 256 (c - 256 * i)) w := by
    obtain ⟨i0, hi0, _, hsz, _⟩ := info_parts info5
    have hel : Try.prog.elem 22 = 5 := by simp [Program.elem, Try.underlying22]
    have hu : Try.prog.underlying 22 = some (.slice (Try.prog.elem 22)) := by rw [hel]; exact Try.underlying22
    rw [run_slice_lh w 22 (some ⟨g, 0, none⟩) (256 * n) c hu .i64 .i64 _ _ (by omega) (by omega) (by omega), hel]
    have e1 : ((i : Int) * 256).toNat = 256 * i := by omega
    have e2 : (((i : Int) + 1) * 256).toNat = 256 * i + 256 := by omega
    have e3 : ¬ c = 256 * i := by omega
    simp [sizeOf, typeInfo, hi0, hsz, sliced, Result.andThen, e1, e2, e3, Addr.add]
    omega
  go_enter Try.func66, Try.ntmps66
  go_wp2
  go_ret
  exact ⟨rfl, rfl⟩
def Seen (w : World) (xs : List Int) (e : Ending) (w' : World) : Prop := ∃ A c, e = .returned (.slice A 256 c) ∧ 256 ≤ c ∧ (Kd.int .u8).C w A 256 xs ∧ w = w'
theorem zeroInt (w : World) : (zeroValue 3).run Try.prog w = .ok (.int .i64 0) w := by kernel_rfl
theorem zeroBytes (w : World) : (zeroValue 22).run Try.prog w = .ok (.slice none 0 0) w := by kernel_rfl
theorem disk_seen.calls (p n i : Nat) (F G : Nat → Prop) (sv pv : Value) (gl gg : Nat) (fg : Int → Option Value) (s : X.DS) (w : World) (h : X.PDr w p F G sv pv gl gg fg n s) (hi : i < n) :
    Calls Try.prog 48 #[.pointer (some ⟨p, 0, none⟩), .int .i64 (i : Int)] w (Seen w (s.read i)) := by
  have HP := Aside0.mk h
  have hn := h.ok.n2
  have hwf : (Lit.int .i64 (i : Int)).wf = true := by
    simp [Lit.wf, IntKind.min, IntKind.max, IntKind.bits, IntKind.signed]
    omega
  have hl1 := h.gh.look Try.underlying3 Try.underlying81 (zeroBytes w) hwf
  have hl2 := h.la.look Try.underlying3 Try.underlying80 (zeroInt w) hwf
  have h0 := h.box.cell 0 _ rfl
  have h1 := h.box.cell 1 _ rfl
  have h2 := h.box.cell 2 _ rfl
  have h3 := h.box.cell 3 _ rfl
  have HRD : Aside0 (s.read i = (X.lastD s.ghosts (i : Int)).getD ((X.lastD s.pend (i : Int)).getD ((s.bytes.take (256 * i + 256)).drop (256 * i)))) := ⟨rfl⟩
  have hsl := Kd.R_reads h.st
  rcases h.go (i : Int) with ⟨e1, e2⟩ | ⟨ys, v, e1, e2, hv⟩
  · rw [e2] at hl1
    rw [e1] at HRD
    rcases X.lastIdx_at (i : Int) s.pend.length s.pend rfl with ⟨e3, e4⟩ | ⟨k, x, e3, e4, e5, e6⟩
    · rw [e3] at hl2
      rw [e4] at HRD
      simp only [Option.map_none, Option.getD_none, Option.isSome_none] at hl1 hl2 HRD
      obtain ⟨g, c, hsv, _⟩ := Kd.R_form h.st (by rw [h.ok.len]; have := h.ok.n1; omega)
      rw [h.ok.len] at hsv
      have hc := Kd.R_reads' (hsv ▸ h.st)
      have HC : Aside0 ((Kd.int .u8).C w (some ⟨g, 256 * i, none⟩) 256 ((s.bytes.take (256 * i + 256)).drop (256 * i))) := ⟨X.C_sub hc.2.2 (by rw [h.ok.len]; omega)⟩
      have HCL : Aside0 (256 ≤ c - 256 * i) := ⟨by have := hc.2.1; omega⟩
      subst hsv
      clear h e1 e2 e3 e4 hsl
      go_enter Try.func48, Try.ntmps48
      go_wp2_with ((go_at_call 66; (with_reducible refine (disk_at.calls p g n c i _ _ _ _ _ w HP.out.box hn hi (by have := hc.2.1; omega)).mono ?_); rintro e w' ⟨rfl, rfl⟩))
      go_ret
      rw [HRD.out]
      exact ⟨_, _, rfl, HCL.out, HC.out, rfl⟩
    · rw [e3] at hl2
      rw [e6] at HRD
      simp only [Option.map_some, Option.getD_some, Option.isSome_some, Option.getD_none, Option.isSome_none] at hl1 hl2 HRD
      have hk : k < s.pend.length := (List.getElem?_eq_some_iff.1 e4).1
      obtain ⟨g, c, hpv, _⟩ := Kd.R_form h.pd (by rw [List.length_map]; omega)
      rw [List.length_map] at hpv
      obtain ⟨hC, _⟩ := X.pend_C (hpv ▸ h.pd) e4 (h.ok.pend x (List.mem_of_getElem? e4)).2.1
      have HC := Aside0.mk hC
      subst hpv
      have hq : decide ((k : Int) < (s.pend.length : Int)) = true := decide_eq_true (by omega)
      have hq2 : decide (k < s.pend.length) = true := decide_eq_true hk
      clear h e1 e2 e3 e4 hsl hC
      generalize s.pend.length = m at *
      go_enter Try.func48, Try.ntmps48
      go_wp2
      go_ret
      rw [HRD.out]
      exact ⟨_, _, rfl, by decide, HC.out, rfl⟩
  · obtain ⟨A, c, hv2⟩ := Kd.R_slice hv
    have hc := Kd.R_reads' (hv2 ▸ hv)
    rw [e2, hv2] at hl1
    rw [e1] at HRD
    simp only [Option.getD_some, Option.isSome_some] at hl1 HRD
    have hyl : ys.length = 256 := by
      obtain ⟨x, hx, rfl⟩ := X.lastD_mem e1
      exact (h.ok.ghosts x hx).2.1
    rw [hyl] at hl1 hc
    have HC := Aside0.mk hc.2.2
    have hc1 := hc.2.1
    clear h e1 e2 hsl hc hv hl2
    go_enter Try.func48, Try.ntmps48
    go_wp2
    go_ret
    rw [HRD.out]
    exact ⟨_, _, rfl, hc1, HC.out, rfl⟩
end Go.Proofs.Ytlbfpjhnpnbikaa.U
