/- PLog2 PLog3: what this claim uses. Laid by slim.py (ours). -/
import Derived.Test.YtlbfpjhnpnbikaaKUx25
import Derived.Test.YtlbfpjhnpnbikaaKUx0
import Derived.Test.YtlbfpjhnpnbikaaKUx23
import Derived.Test.YtlbfpjhnpnbikaaKPLog
section
namespace Go.Proofs.Ytlbfpjhnpnbikaa.Pure
open Go Go.RowKit Go.Proofs.Ytlbfpjhnpnbikaa.U Go.Proofs.YtlbfpjhnpnbikaaW.PrintWords Go.Proofs.YtlbfpjhnpnbikaaW.PrintLast Go.Proofs.YtlbfpjhnpnbikaaW.PrintMore
set_option linter.unusedVariables false
set_option linter.unusedSimpArgs false
theorem areaRef_f (n : Nat) (at_ len : Int) (hn : n ≤ 1024) : undercroftref04_Area.f (n : Int) at_ len = some (areaB n at_ len) := by
  unfold undercroftref04_Area.f areaB
  by_cases h1 : len ≥ 8
  · rw [if_pos h1]
    by_cases h2 : len ≤ 1024
    · rw [if_pos h2, wrap64_id (by omega) (by omega)]
      by_cases h3 : at_ ≥ 0
      · rw [if_pos h3]
        congr 1
        rw [Bool.eq_iff_iff, decide_eq_true_eq, decide_eq_true_eq]
        omega
      · rw [if_neg h3, decide_eq_false (by omega)]
    · rw [if_neg h2, decide_eq_false (by omega)]
  · rw [if_neg h1, decide_eq_false (by omega)]
section
variable {w0 w : World} {L : List X.Res}
theorem Area_part (n : Nat) (at_ len : Int) (h : X.Lies w0 w L) (hn : n ≤ 1024) : Calls Try.prog 44 #[.int .i64 (n : Int), .int .i64 at_, .int .i64 len] w fun e w' => e = .returned (.bool (areaB n at_ len)) ∧ X.Lies w0 w' L := by
  refine (undercroftref04_Area.calls (n : Int) at_ len _ w (areaRef_f n at_ len hn)).mono ?_
  rintro e w' ⟨rfl, hd⟩
  exact ⟨rfl, h.grow hd.below⟩
end
end Go.Proofs.Ytlbfpjhnpnbikaa.Pure
end
section
namespace Go.Proofs.Ytlbfpjhnpnbikaa.Pure
open Go Go.RowKit Go.Proofs.Ytlbfpjhnpnbikaa.U Go.Proofs.YtlbfpjhnpnbikaaW.PrintWords Go.Proofs.YtlbfpjhnpnbikaaW.PrintLast Go.Proofs.YtlbfpjhnpnbikaaW.PrintMore
set_option linter.unusedVariables false
set_option linter.unusedSimpArgs false
theorem hd_parts (seq : Int) (pl : Nat) : hdB seq pl = [85, 76, 79, 71, 3, 0, 0, 0] ++ (bytesN seq 8 ++ (bytesN (pl : Int) 4 ++ (bytesN (X.crcMore 0 (hd20 seq pl)) 4 ++ List.replicate 232 0))) := by
  unfold hdB hd20
  simp only [List.append_assoc]
theorem hdSeq_hdB {seq : Int} (pl : Nat) (h : 0 ≤ seq ∧ seq < 18446744073709551616) : hdSeq (hdB seq pl) = seq := by
  obtain ⟨m, rfl⟩ := Int.eq_ofNat_of_zero_le h.1
  unfold hdSeq
  have e : ((hdB (m : Int) pl).take 16).drop 8 = bytesN (m : Int) 8 := by
    rw [hd_parts, List.drop_take]
    show List.take 8 (List.drop 8 ([85, 76, 79, 71, 3, 0, 0, 0] ++ _)) = _
    rw [show List.drop 8 ([85, 76, 79, 71, 3, 0, 0, 0] ++ (bytesN (m : Int) 8 ++ (bytesN (pl : Int) 4 ++ (bytesN (X.crcMore 0 (hd20 (m : Int) pl)) 4 ++ List.replicate 232 0)))) = _ from List.drop_left' (l₁ := [85, 76, 79, 71, 3, 0, 0, 0]) rfl, List.take_left' (bytesN_length _ _)]
  rw [e, num_bytesN, Nat.mod_eq_of_lt (by have := h.2; omega)]
theorem hdPl_hdB (seq : Int) {pl : Nat} (h : pl < 4294967296) : hdPl (hdB seq pl) = pl := by
  unfold hdPl
  have e : ((hdB seq pl).take 20).drop 16 = bytesN (pl : Int) 4 := by
    rw [hd_parts, List.drop_take, ← List.append_assoc]
    show List.take 4 (List.drop 16 _) = _
    rw [List.drop_left' (by rw [List.length_append, bytesN_length]; rfl), List.take_left' (bytesN_length _ _)]
  rw [e, num_bytesN, Nat.mod_eq_of_lt (by omega)]
theorem hdOk_hdB {seq : Int} {pl : Nat} {len : Int} (h : 0 ≤ seq ∧ seq < 18446744073709551616) (h1 : (pl : Int) < len - 1) (h2 : len ≤ 1024) : hdOk (hdB seq pl) len = true := by
  unfold hdOk
  rw [hdSeq_hdB pl h, hdPl_hdB seq (by omega), decide_eq_true h1, decide_eq_true rfl]
  rfl
theorem flush_free {d : X.DS} (h : d.set = false) : d.flush = ⟨X.laysTo d.bytes d.pend, [], d.ghosts, false, d.left⟩ := by
  unfold X.DS.flush
  rw [h]
  rfl
theorem write_free {d : X.DS} (h : d.set = false) (i : Nat) (xs : List Int) : d.write i xs = ⟨d.bytes, d.pend ++ [(i, xs)], d.ghosts, false, d.left⟩ := by
  unfold X.DS.write
  rw [h]
  rfl
theorem Came.seq' {a b : Int} {ws : List S66} {rs : List Int} (h : Came a ws rs) (hb : 0 ≤ b ∧ b < 18446744073709551616) : Came b ws rs := ⟨hb, h.slots, h.data, h.lw, h.lr, h.ld⟩
theorem appE_zero {n : Nat} {s : LS} {ws : List S66} {rs : List Int} (h : appE n s ws rs = 0) : fairB n s ws rs = true ∧ mayB ws rs = true ∧ ws.length + 2 + s.used ≤ s.len - 1 := by
  unfold appE at h
  by_cases h1 : (fairB n s ws rs && mayB ws rs) = true
  · rw [if_pos h1] at h
    rw [Bool.and_eq_true] at h1
    by_cases h2 : ws.length + 2 + s.used ≤ s.len - 1
    · exact ⟨h1.1, h1.2, h2⟩
    · rw [if_neg h2] at h
      cases h
  · rw [if_neg h1] at h
    cases h
theorem u64_in (x : Int) : 0 ≤ IntKind.u64.wrap x ∧ IntKind.u64.wrap x < 18446744073709551616 := by
  simp [IntKind.wrap, IntKind.bits, IntKind.signed]
  omega
theorem used_snoc (s : LS) (q : Int) (p : Nat) (t : Tx) : (⟨s.st, s.len, q, p, s.live ++ [t]⟩ : LS).used = s.used + (t.f1.length + 2) := by
  unfold LS.used
  rw [List.map_append, List.sum_append]
  rfl
theorem appS_ok {n : Nat} {s : LS} {ws : List S66} {rs : List Int} (h : s.Ok n) (hc : Came s.seq ws rs) : (appS n s ws rs).Ok n := by
  unfold appS
  by_cases he : appE n s ws rs = 0
  · rw [if_pos he]
    obtain ⟨hf, hm, hu⟩ := appE_zero he
    refine ⟨h.l0, h.l1, h.fit, h.n1, Nat.mod_lt _ (by have := h.l0; show 0 < s.len - 1; omega), u64_in _, ?_, ?_⟩
    · rw [used_snoc]
      show s.used + (ws.length + 2) ≤ s.len - 1
      omega
    · intro t ht
      rcases List.mem_append.1 ht with ht | ht
      · exact h.live t ht
      · rw [List.mem_singleton.1 ht]
        exact ⟨hm, hc, hf⟩
  · rw [if_neg he]
    exact h
structure Free (n : Nat) (d : X.DS) : Prop where
  ok : d.Ok n
  set : d.set = false
  gho : d.ghosts = []
theorem Free.write {n : Nat} {d : X.DS} (h : Free n d) {i : Nat} {xs : List Int} (hi : i < n) (hl : xs.length = 256) (hu : X.u8all xs = true) : Free n (d.write i xs) := by
  rw [write_free h.set]
  refine ⟨⟨h.ok.len, h.ok.n1, h.ok.n2, h.ok.u8, fun x hx => ?_, h.ok.ghosts, h.ok.left⟩, rfl, h.gho⟩
  rcases List.mem_append.1 hx with hx | hx
  · exact h.ok.pend x hx
  · rw [List.mem_singleton.1 hx]
    exact ⟨hi, hl, hu⟩
theorem Free.flush {n : Nat} {d : X.DS} (h : Free n d) : Free n d.flush := by
  rw [flush_free h.set]
  have hl := X.laysTo_ok d.pend d.bytes h.ok.len h.ok.u8 h.ok.pend
  exact ⟨⟨hl.1, h.ok.n1, h.ok.n2, hl.2, (fun x hx => by cases hx), h.ok.ghosts, h.ok.left⟩, rfl, h.gho⟩
theorem blk_ok {enc : List Int} {N i : Nat} (hl : enc.length = N * 256) (hi : i < N) (hu : X.u8all enc = true) : (X.blk enc i).length = 256 ∧ X.u8all (X.blk enc i) = true := by
  have e : X.blk enc i = (enc.take (256 * i + 256)).drop (256 * i) := rfl
  rw [e]
  exact ⟨by rw [List.length_drop, List.length_take]; omega, X.u8all_drop (X.u8all_take hu _) _⟩
theorem Free.ring {n : Nat} {d : X.DS} {s : LS} {enc : List Int} {N : Nat} (h : Free n d) (hs : s.Ok n) (hl : enc.length = N * 256) (hu : X.u8all enc = true) : ∀ i, i ≤ N → Free n (ringW d s enc i)
  | 0, _ => h
  | i + 1, hi => by
    have ih := Free.ring h hs hl hu i (by omega)
    have hb := blk_ok hl (show i < N by omega) hu
    have := Nat.mod_lt (s.pl + i) (show 0 < s.len - 1 by have := hs.l0; omega)
    exact ih.write (by have := hs.fit; omega) hb.1 hb.2
theorem Free.app {n : Nat} {d : X.DS} {s : LS} {ws : List S66} {rs : List Int} (h : Free n d) (hs : s.Ok n) (hc : Came s.seq ws rs) : Free n (appD n d s ws rs) := by
  unfold appD
  by_cases he : appE n s ws rs = 0
  · rw [if_pos he]
    obtain ⟨-, hm, -⟩ := appE_zero he
    exact h.ring hs (encL_length hm) (encL_u8 hc.data) _ (Nat.le_refl _)
  · rw [if_neg he]
    exact h
theorem app_pend (n : Nat) (d : X.DS) (s : LS) (ws : List S66) (rs : List Int) : (appD n d s ws rs).pend.length ≤ d.pend.length + 60 := by
  unfold appD
  by_cases he : appE n s ws rs = 0
  · rw [if_pos he]
    obtain ⟨-, hm, -⟩ := appE_zero he
    have := ringW_pend d s (encL s.seq ws rs) (ws.length + 2)
    have := (may_facts hm).1
    omega
  · rw [if_neg he]
    omega
theorem Free.wr {n : Nat} {d : X.DS} {l : List Tx} {i : Nat} {ws : List S66} (h : Free n d) (hw : ∀ x ∈ ws, 0 ≤ x.f0 ∧ x.f0.toNat < n ∧ x.f1.length = 256 ∧ X.u8all x.f1 = true) : ∀ k, Free n (wrTo l i ws d k)
  | 0 => h
  | k + 1 => by
    have ih := Free.wr (l := l) (i := i) h hw k
    rw [wrTo]
    split
    · rename_i x hx
      split
      · exact ih
      · obtain ⟨-, h1, h2, h3⟩ := hw x (List.mem_of_getElem? hx)
        exact ih.write h1 h2 h3
    · exact ih
structure Sound (n : Nat) (d : X.DS) (s : LS) (k : Nat) : Prop where
  free : Free n d
  ok : s.Ok n
  pend : d.pend.length ≤ 100 * k
  live : s.live.length ≤ k
theorem Sound.app {n : Nat} {d : X.DS} {s : LS} {k : Nat} {ws : List S66} {rs : List Int} (h : Sound n d s k) (hc : Came s.seq ws rs) : Sound n (appD n d s ws rs) (appS n s ws rs) (k + 1) := by
  refine ⟨h.free.app h.ok hc, appS_ok h.ok hc, by have := app_pend n d s ws rs; have := h.pend; omega, ?_⟩
  unfold appS
  split
  · show (s.live ++ [_]).length ≤ k + 1
    rw [List.length_append]
    have := h.live
    show s.live.length + 1 ≤ k + 1
    omega
  · have := h.live
    omega
theorem Sound.flush {n : Nat} {d : X.DS} {s : LS} {k : Nat} (h : Sound n d s k) : Sound n d.flush s (k + 1) := by
  refine ⟨h.free.flush, h.ok, ?_, by have := h.live; omega⟩
  rw [flush_free h.free.set]
  exact Nat.zero_le _
def zerosD (n : Nat) : X.DS := X.DS.new (List.replicate (256 * n) 0)
theorem Free.zeros {n : Nat} (h1 : 1 ≤ n) (h2 : n ≤ 1024) : Free n (zerosD n) :=
  ⟨⟨List.length_replicate, h1, h2, X.u8all_iff.2 (fun c hc => by obtain ⟨-, rfl⟩ := List.mem_replicate.1 hc; decide), (fun x hx => by cases hx), (fun x hx => by cases hx), show (0 : Nat) ≤ 9223372036854775807 by decide⟩, rfl, rfl⟩
def newD (n : Nat) (st ln : Nat) : X.DS := fmtD n (zerosD n) (st : Int) (ln : Int)
def newS (st ln : Nat) : LS := ⟨st, ln, 1, 0, []⟩
theorem newD_eq {n st ln : Nat} (ha : areaB n (st : Int) (ln : Int) = true) : newD n st ln = ((zerosD n).write st (hdB 1 0)).flush := if_pos ha
theorem area_in {n st ln : Nat} (ha : areaB n (st : Int) (ln : Int) = true) : 8 ≤ ln ∧ ln ≤ 1024 ∧ st + ln ≤ n := by
  have := of_decide_eq_true ha
  omega
theorem new_free {n st ln : Nat} (h1 : 1 ≤ n) (h2 : n ≤ 1024) (ha : areaB n (st : Int) (ln : Int) = true) : Free n (newD n st ln) := by
  rw [newD_eq ha]
  exact ((Free.zeros h1 h2).write (by have := area_in ha; omega) (hdB_length _ _) (hdB_u8 _ _)).flush
theorem new_read {n st ln : Nat} (h1 : 1 ≤ n) (h2 : n ≤ 1024) (ha : areaB n (st : Int) (ln : Int) = true) : (newD n st ln).read st = hdB 1 0 := by
  rw [newD_eq ha, X.DS.read_flush ((Free.zeros h1 h2).write (by have := area_in ha; omega) (hdB_length _ _) (hdB_u8 _ _)).ok, X.DS.read_write, if_pos rfl]
  rfl
theorem new_opens {n st ln : Nat} (h1 : 1 ≤ n) (h2 : n ≤ 1024) (ha : areaB n (st : Int) (ln : Int) = true) : opnE n (newD n st ln) (st : Int) (ln : Int) = 0 ∧ opnS (newD n st ln) (st : Int) (ln : Int) = newS st ln := by
  have hb := area_in ha
  constructor
  · unfold opnE
    rw [if_pos ha, Int.toNat_natCast, new_read h1 h2 ha, if_pos (hdOk_hdB (by decide) (by omega) (by omega))]
  · unfold opnS newS
    rw [Int.toNat_natCast, Int.toNat_natCast, new_read h1 h2 ha, hdSeq_hdB 0 (by decide), hdPl_hdB 1 (by decide)]
theorem new_sound {n st ln : Nat} (h1 : 1 ≤ n) (h2 : n ≤ 1024) (ha : areaB n (st : Int) (ln : Int) = true) : Sound n (newD n st ln) (newS st ln) 0 := by
  have hb := area_in ha
  refine ⟨new_free h1 h2 ha, ⟨hb.1, hb.2.1, hb.2.2, h2, by show 0 < ln - 1; omega, show (0 : Int) ≤ 1 ∧ (1 : Int) < 18446744073709551616 by decide, Nat.zero_le _, fun t ht => by cases ht⟩, ?_, Nat.le_refl _⟩
  rw [newD_eq ha, flush_free ((Free.zeros h1 h2).write (by omega) (hdB_length 1 0) (hdB_u8 1 0)).set]
  exact Nat.zero_le _
end Go.Proofs.Ytlbfpjhnpnbikaa.Pure
end
