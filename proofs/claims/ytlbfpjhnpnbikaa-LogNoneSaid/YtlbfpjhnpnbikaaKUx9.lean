/- PLog3 Ux9: what this claim uses. Laid by slim.py (ours). -/
import Derived.Test.YtlbfpjhnpnbikaaKUx47
import Derived.Test.YtlbfpjhnpnbikaaKUx25
import Derived.Test.YtlbfpjhnpnbikaaKUx43
import Derived.Test.YtlbfpjhnpnbikaaKPLog
import Derived.Test.YtlbfpjhnpnbikaaKUx0
section
namespace Go.Proofs.Ytlbfpjhnpnbikaa.Pure
open Go Go.RowKit Go.Proofs.Ytlbfpjhnpnbikaa.U Go.Proofs.YtlbfpjhnpnbikaaW.PrintWords Go.Proofs.YtlbfpjhnpnbikaaW.PrintLast Go.Proofs.YtlbfpjhnpnbikaaW.PrintMore
set_option linter.unusedVariables false
set_option linter.unusedSimpArgs false
theorem hd_parts (seq : Int) (pl : Nat) : hdB seq pl = [85, 76, 79, 71, 3, 0, 0, 0] ++ (bytesN seq 8 ++ (bytesN (pl : Int) 4 ++ (bytesN (X.crcMore 0 (hd20 seq pl)) 4 ++ List.replicate 232 0))) := by
  unfold hdB hd20
  simp only [List.append_assoc]
theorem hdSeq_hdB {seq : Int} (pl : Nat) (h : 0 ≤ seq ∧ seq < 18446744073709551616) : hdSeq (hdB seq pl) = seq := by
  obtain ⟨m, rfl⟩ := Int.eq_ofNat_of_zero_le h.1
  unfold hdSeq
  have e : ((hdB (m : Int) pl).take 16).drop 8 = bytesN (m : Int) 8 := by
    rw [hd_parts, List.drop_take]
    show List.take 8 (List.drop 8 ([85, 76, 79, 71, 3, 0, 0, 0] ++ _)) = _
    rw [show List.drop 8 ([85, 76, 79, 71, 3, 0, 0, 0] ++ (bytesN (m : Int) 8 ++ (bytesN (pl : Int) 4 ++ (bytesN (X.crcMore 0 (hd20 (m : Int) pl)) 4 ++ List.replicate 232 0)))) = _ from List.drop_left' (l₁ := [85, 76, 79, 71, 3, 0, 0, 0]) rfl, List.take_left' (bytesN_length _ _)]
  rw [e, num_bytesN, Nat.mod_eq_of_lt (by have := h.2; omega)]
theorem hdPl_hdB (seq : Int) {pl : Nat} (h : pl < 4294967296) : hdPl (hdB seq pl) = pl := by
  unfold hdPl
  have e : ((hdB seq pl).take 20).drop 16 = bytesN (pl : Int) 4 := by
    rw [hd_parts, List.drop_take, ← List.append_assoc]
    show List.take 4 (List.drop 16 _) = _
    rw [List.drop_left' (by rw [List.length_append, bytesN_length]; rfl), List.take_left' (bytesN_length _ _)]
  rw [e, num_bytesN, Nat.mod_eq_of_lt (by omega)]
theorem hdOk_hdB {seq : Int} {pl : Nat} {len : Int} (h : 0 ≤ seq ∧ seq < 18446744073709551616) (h1 : (pl : Int) < len - 1) (h2 : len ≤ 1024) : hdOk (hdB seq pl) len = true := by
  unfold hdOk
  rw [hdSeq_hdB pl h, hdPl_hdB seq (by omega), decide_eq_true h1, decide_eq_true rfl]
  rfl
theorem flush_free {d : X.DS} (h : d.set = false) : d.flush = ⟨X.laysTo d.bytes d.pend, [], d.ghosts, false, d.left⟩ := by
  unfold X.DS.flush
  rw [h]
  rfl
theorem write_free {d : X.DS} (h : d.set = false) (i : Nat) (xs : List Int) : d.write i xs = ⟨d.bytes, d.pend ++ [(i, xs)], d.ghosts, false, d.left⟩ := by
  unfold X.DS.write
  rw [h]
  rfl
theorem appE_zero {n : Nat} {s : LS} {ws : List S66} {rs : List Int} (h : appE n s ws rs = 0) : fairB n s ws rs = true ∧ mayB ws rs = true ∧ ws.length + 2 + s.used ≤ s.len - 1 := by
  unfold appE at h
  by_cases h1 : (fairB n s ws rs && mayB ws rs) = true
  · rw [if_pos h1] at h
    rw [Bool.and_eq_true] at h1
    by_cases h2 : ws.length + 2 + s.used ≤ s.len - 1
    · exact ⟨h1.1, h1.2, h2⟩
    · rw [if_neg h2] at h
      cases h
  · rw [if_neg h1] at h
    cases h
theorem u64_in (x : Int) : 0 ≤ IntKind.u64.wrap x ∧ IntKind.u64.wrap x < 18446744073709551616 := by
  simp [IntKind.wrap, IntKind.bits, IntKind.signed]
  omega
theorem used_snoc (s : LS) (q : Int) (p : Nat) (t : Tx) : (⟨s.st, s.len, q, p, s.live ++ [t]⟩ : LS).used = s.used + (t.f1.length + 2) := by
  unfold LS.used
  rw [List.map_append, List.sum_append]
  rfl
theorem appS_ok {n : Nat} {s : LS} {ws : List S66} {rs : List Int} (h : s.Ok n) (hc : Came s.seq ws rs) : (appS n s ws rs).Ok n := by
  unfold appS
  by_cases he : appE n s ws rs = 0
  · rw [if_pos he]
    obtain ⟨hf, hm, hu⟩ := appE_zero he
    refine ⟨h.l0, h.l1, h.fit, h.n1, Nat.mod_lt _ (by have := h.l0; show 0 < s.len - 1; omega), u64_in _, ?_, ?_⟩
    · rw [used_snoc]
      show s.used + (ws.length + 2) ≤ s.len - 1
      omega
    · intro t ht
      rcases List.mem_append.1 ht with ht | ht
      · exact h.live t ht
      · rw [List.mem_singleton.1 ht]
        exact ⟨hm, hc, hf⟩
  · rw [if_neg he]
    exact h
structure Free (n : Nat) (d : X.DS) : Prop where
  ok : d.Ok n
  set : d.set = false
  gho : d.ghosts = []
theorem Free.write {n : Nat} {d : X.DS} (h : Free n d) {i : Nat} {xs : List Int} (hi : i < n) (hl : xs.length = 256) (hu : X.u8all xs = true) : Free n (d.write i xs) := by
  rw [write_free h.set]
  refine ⟨⟨h.ok.len, h.ok.n1, h.ok.n2, h.ok.u8, fun x hx => ?_, h.ok.ghosts, h.ok.left⟩, rfl, h.gho⟩
  rcases List.mem_append.1 hx with hx | hx
  · exact h.ok.pend x hx
  · rw [List.mem_singleton.1 hx]
    exact ⟨hi, hl, hu⟩
theorem Free.flush {n : Nat} {d : X.DS} (h : Free n d) : Free n d.flush := by
  rw [flush_free h.set]
  have hl := X.laysTo_ok d.pend d.bytes h.ok.len h.ok.u8 h.ok.pend
  exact ⟨⟨hl.1, h.ok.n1, h.ok.n2, hl.2, (fun x hx => by cases hx), h.ok.ghosts, h.ok.left⟩, rfl, h.gho⟩
theorem Free.wr {n : Nat} {d : X.DS} {l : List Tx} {i : Nat} {ws : List S66} (h : Free n d) (hw : ∀ x ∈ ws, 0 ≤ x.f0 ∧ x.f0.toNat < n ∧ x.f1.length = 256 ∧ X.u8all x.f1 = true) : ∀ k, Free n (wrTo l i ws d k)
  | 0 => h
  | k + 1 => by
    have ih := Free.wr (l := l) (i := i) h hw k
    rw [wrTo]
    split
    · rename_i x hx
      split
      · exact ih
      · obtain ⟨-, h1, h2, h3⟩ := hw x (List.mem_of_getElem? hx)
        exact ih.write h1 h2 h3
    · exact ih
structure Sound (n : Nat) (d : X.DS) (s : LS) (k : Nat) : Prop where
  free : Free n d
  ok : s.Ok n
  pend : d.pend.length ≤ 100 * k
  live : s.live.length ≤ k
theorem Sound.flush {n : Nat} {d : X.DS} {s : LS} {k : Nat} (h : Sound n d s k) : Sound n d.flush s (k + 1) := by
  refine ⟨h.free.flush, h.ok, ?_, by have := h.live; omega⟩
  rw [flush_free h.free.set]
  exact Nat.zero_le _
def zerosD (n : Nat) : X.DS := X.DS.new (List.replicate (256 * n) 0)
theorem Free.zeros {n : Nat} (h1 : 1 ≤ n) (h2 : n ≤ 1024) : Free n (zerosD n) :=
  ⟨⟨List.length_replicate, h1, h2, X.u8all_iff.2 (fun c hc => by obtain ⟨-, rfl⟩ := List.mem_replicate.1 hc; decide), (fun x hx => by cases hx), (fun x hx => by cases hx), show (0 : Nat) ≤ 9223372036854775807 by decide⟩, rfl, rfl⟩
def newD (n : Nat) (st ln : Nat) : X.DS := fmtD n (zerosD n) (st : Int) (ln : Int)
def newS (st ln : Nat) : LS := ⟨st, ln, 1, 0, []⟩
theorem newD_eq {n st ln : Nat} (ha : areaB n (st : Int) (ln : Int) = true) : newD n st ln = ((zerosD n).write st (hdB 1 0)).flush := if_pos ha
theorem area_in {n st ln : Nat} (ha : areaB n (st : Int) (ln : Int) = true) : 8 ≤ ln ∧ ln ≤ 1024 ∧ st + ln ≤ n := by
  have := of_decide_eq_true ha
  omega
theorem new_free {n st ln : Nat} (h1 : 1 ≤ n) (h2 : n ≤ 1024) (ha : areaB n (st : Int) (ln : Int) = true) : Free n (newD n st ln) := by
  rw [newD_eq ha]
  exact ((Free.zeros h1 h2).write (by have := area_in ha; omega) (hdB_length _ _) (hdB_u8 _ _)).flush
theorem new_read {n st ln : Nat} (h1 : 1 ≤ n) (h2 : n ≤ 1024) (ha : areaB n (st : Int) (ln : Int) = true) : (newD n st ln).read st = hdB 1 0 := by
  rw [newD_eq ha, X.DS.read_flush ((Free.zeros h1 h2).write (by have := area_in ha; omega) (hdB_length _ _) (hdB_u8 _ _)).ok, X.DS.read_write, if_pos rfl]
  rfl
theorem new_opens {n st ln : Nat} (h1 : 1 ≤ n) (h2 : n ≤ 1024) (ha : areaB n (st : Int) (ln : Int) = true) : opnE n (newD n st ln) (st : Int) (ln : Int) = 0 ∧ opnS (newD n st ln) (st : Int) (ln : Int) = newS st ln := by
  have hb := area_in ha
  constructor
  · unfold opnE
    rw [if_pos ha, Int.toNat_natCast, new_read h1 h2 ha, if_pos (hdOk_hdB (by decide) (by omega) (by omega))]
  · unfold opnS newS
    rw [Int.toNat_natCast, Int.toNat_natCast, new_read h1 h2 ha, hdSeq_hdB 0 (by decide), hdPl_hdB 1 (by decide)]
theorem new_sound {n st ln : Nat} (h1 : 1 ≤ n) (h2 : n ≤ 1024) (ha : areaB n (st : Int) (ln : Int) = true) : Sound n (newD n st ln) (newS st ln) 0 := by
  have hb := area_in ha
  refine ⟨new_free h1 h2 ha, ⟨hb.1, hb.2.1, hb.2.2, h2, by show 0 < ln - 1; omega, show (0 : Int) ≤ 1 ∧ (1 : Int) < 18446744073709551616 by decide, Nat.zero_le _, fun t ht => by cases ht⟩, ?_, Nat.le_refl _⟩
  rw [newD_eq ha, flush_free ((Free.zeros h1 h2).write (by omega) (hdB_length 1 0) (hdB_u8 1 0)).set]
  exact Nat.zero_le _
end Go.Proofs.Ytlbfpjhnpnbikaa.Pure
end
section
namespace Go.Proofs.Ytlbfpjhnpnbikaa.U
open Go.RowKit Go.Proofs.YtlbfpjhnpnbikaaW.PrintWords Go.Proofs.YtlbfpjhnpnbikaaW.PrintLast Go.Proofs.YtlbfpjhnpnbikaaW.PrintMore
attribute [local go_sem] max2_int min2_int max_two min_two max_three min_three max_four min_four
set_option linter.unusedVariables false
set_option linter.unusedSimpArgs false
theorem log_Room.part (w0 w : World) (L : List X.Res) (g p : Nat) (ls : Pure.LS) (v : Value) (h : X.Lies w0 w (.box g (Pure.logC p ls v) 93 :: L)) (hl : ls.len ≤ 1024) (hu : ls.used ≤ ls.len - 1) :
    Calls Try.prog 18 #[.pointer (some ⟨g, 0, none⟩)] w fun e w' => e = .returned (.int .i64 ((ls.len - 1 - ls.used : Nat) : Int)) ∧ X.Lies w0 w' (.box g (Pure.logC p ls v) 93 :: L) := by
  obtain ⟨r, hr⟩ : ∃ r : Nat, r = ls.len - 1 := ⟨_, rfl⟩
  have HR := Aside0.mk hr
  have hw : wrap64 ((r : Int) - (ls.used : Int)) = ((ls.len - 1 - ls.used : Nat) : Int) := by unfold wrap64; omega
  obtain ⟨t, ht⟩ : ∃ t : Int, t = ((ls.len - 1 - ls.used : Nat) : Int) := ⟨_, rfl⟩
  rw [← ht] at hw ⊢
  have HS := Aside0.mk h
  clear h hl hu ht hr
  go_enter Try.func18, Try.ntmps18
  go_wp2_with fail
  refine start_ (n := 10) (S := (fun w' => X.Blk w' g (Pure.logC p ls v) 93)) (ds := []) #[false, false, false, false, false, false, false, false, false, false] (by kernel_rfl) rfl rfl (HS.out.drew.boxed 0 rfl) (fun hHeld => ?_)
  have HSa := Aside0.mk (HS.out.drew)
  generalize World.drew _ = wa at *
  clear HS
  refine pure_ (i := 0) (N := some 5) (v := ?_) (a' := ?_) #[true, false, false, false, false, false, false, false, false, false] rfl rfl (by kernel_rfl) (fun _ _ _ h => h) (Or.inl ⟨by rfl, ?_⟩) ?_ ?_
  rotate_left
  · intro w'
    go_simp
    with_reducible rfl
  rotate_left
  · simp only [Act.put, List.setIfInBounds_toArray, List.set_cons_zero, List.set_cons_succ, i64_w, i32_w]
    rfl
  refine pure_ (i := 1) (N := some 6) (v := ?_) (a' := ?_) #[true, true, false, false, false, false, false, false, false, false] rfl rfl (by kernel_rfl) (fun _ _ _ h => h) (Or.inl ⟨by rfl, ?_⟩) ?_ ?_
  rotate_left
  · intro w'
    go_simp
    with_reducible rfl
  rotate_left
  · simp only [Act.put, List.setIfInBounds_toArray, List.set_cons_zero, List.set_cons_succ, i64_w, i32_w]
    rfl
  refine pure_ (i := 2) (N := some 7) (v := ?_) (a' := ?_) #[true, true, true, false, false, false, false, false, false, false] rfl rfl (by kernel_rfl) (fun _ _ _ h => h) (Or.inl ⟨by rfl, ?_⟩) ?_ ?_
  rotate_left
  · intro w'
    go_simp
    with_reducible rfl
  rotate_left
  · simp only [Act.put, List.setIfInBounds_toArray, List.set_cons_zero, List.set_cons_succ, i64_w, i32_w]
    rfl
  refine take_ (i := 3) (N := some 8) (v := .int .i64 (r : Int)) (a' := ?_) #[true, true, true, true, false, false, false, false, false, false] rfl rfl (by kernel_rfl) (fun _ _ _ h => h) (Or.inl ⟨by rfl, ?_⟩) hHeld ?_ ?_
  · intro w' hs_
    exact (by have x_ : w'.cell? ⟨g, 2, none⟩ = some (.int .i64 (r : Int)) := (by rw [HR.out]; exact hs_.cell 2 _ rfl); go_simp; done)
  rotate_left
  · simp only [Act.put, List.setIfInBounds_toArray, List.set_cons_zero, List.set_cons_succ, i64_w, i32_w]
    rfl
  refine pure_ (i := 4) (N := some 9) (v := ?_) (a' := ?_) #[true, true, true, true, true, false, false, false, false, false] rfl rfl (by kernel_rfl) (fun _ _ _ h => h) (Or.inl ⟨by rfl, ?_⟩) ?_ ?_
  rotate_left
  · intro w'
    go_simp
    with_reducible rfl
  rotate_left
  · simp only [Act.put, List.setIfInBounds_toArray, List.set_cons_zero, List.set_cons_succ, i64_w, i32_w]
    rfl
  refine pure_ (i := 5) (N := some 10) (v := ?_) (a' := ?_) #[true, true, true, true, true, true, false, false, false, false] rfl rfl (by kernel_rfl) (fun _ _ _ h => h) (Or.inl ⟨by rfl, ?_⟩) ?_ ?_
  rotate_left
  · intro w'
    go_simp
    with_reducible rfl
  rotate_left
  · simp only [Act.put, List.setIfInBounds_toArray, List.set_cons_zero, List.set_cons_succ, i64_w, i32_w]
    rfl
  refine pure_ (i := 6) (N := some 11) (v := ?_) (a' := ?_) #[true, true, true, true, true, true, true, false, false, false] rfl rfl (by kernel_rfl) (fun _ _ _ h => h) (Or.inl ⟨by rfl, ?_⟩) ?_ ?_
  rotate_left
  · intro w'
    go_simp
    with_reducible rfl
  rotate_left
  · simp only [Act.put, List.setIfInBounds_toArray, List.set_cons_zero, List.set_cons_succ, i64_w, i32_w]
    rfl
  refine take_ (i := 7) (N := some 12) (v := .int .i64 (ls.used : Int)) (a' := ?_) #[true, true, true, true, true, true, true, true, false, false] rfl rfl (by kernel_rfl) (fun _ _ _ h => h) (Or.inl ⟨by rfl, ?_⟩) hHeld ?_ ?_
  · intro w' hs_
    exact (by have x_ : w'.cell? ⟨g, 6, none⟩ = some (.int .i64 (ls.used : Int)) := hs_.cell 6 _ rfl; go_simp; done)
  rotate_left
  · simp only [Act.put, List.setIfInBounds_toArray, List.set_cons_zero, List.set_cons_succ, i64_w, i32_w]
    rfl
  refine pure_ (i := 8) (N := some 13) (v := .int .i64 t) (a' := ?_) #[true, true, true, true, true, true, true, true, true, false] rfl rfl (by kernel_rfl) (fun _ _ _ h => h) (Or.inl ⟨by rfl, ?_⟩) ?_ ?_
  · intro w'
    exact (by go_simp; first | done | (rw [i64_w]; assumption))
  rotate_left
  · simp only [Act.put, List.setIfInBounds_toArray, List.set_cons_zero, List.set_cons_succ, i64_w, i32_w]
    rfl
  refine pure_ (i := 9) (N := some 2) (v := .int .i64 t) (a' := ?_) #[true, true, true, true, true, true, true, true, true, true] rfl rfl (by kernel_rfl) (fun _ _ _ h => h) (Or.inl ⟨by rfl, ?_⟩) ?_ ?_
  · intro w'
    exact (by go_simp; first | done | (rw [i64_w]; assumption))
  rotate_left
  · simp only [Act.put, List.setIfInBounds_toArray, List.set_cons_zero, List.set_cons_succ, i64_w, i32_w]
    rfl
  refine done_ (by kernel_rfl) ?_
  go_wp2
  go_ret
  exact ⟨rfl, HSa.out⟩
theorem log_Room_nil.calls (w : World) : Calls Try.prog 18 #[.pointer none] w fun e w' => e = .returned (.int .i64 0) ∧ w = w' := by
  go_enter Try.func18, Try.ntmps18
  go_wp2
  go_ret
  exact ⟨rfl, rfl⟩
end Go.Proofs.Ytlbfpjhnpnbikaa.U
end
