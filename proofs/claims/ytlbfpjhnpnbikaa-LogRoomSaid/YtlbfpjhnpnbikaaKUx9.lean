/- PLog4 Ux9: what this claim uses. Laid by slim.py (ours). -/
import Derived.Test.YtlbfpjhnpnbikaaKUx50
import Derived.Test.YtlbfpjhnpnbikaaKPLog3
import Derived.Test.YtlbfpjhnpnbikaaKPLog
section
namespace Go.Proofs.Ytlbfpjhnpnbikaa.Pure
open Go Go.RowKit Go.Proofs.Ytlbfpjhnpnbikaa.U Go.Proofs.YtlbfpjhnpnbikaaW.PrintWords Go.Proofs.YtlbfpjhnpnbikaaW.PrintLast Go.Proofs.YtlbfpjhnpnbikaaW.PrintMore
set_option linter.unusedVariables false
set_option linter.unusedSimpArgs false
theorem Sound.mono {n : Nat} {d : X.DS} {s : LS} {k k2 : Nat} (h : Sound n d s k) (hk : k ≤ k2) : Sound n d s k2 := ⟨h.free, h.ok, by have := h.pend; omega, by have := h.live; omega⟩
theorem appS_st (n : Nat) (s : LS) (ws : List S66) (rs : List Int) : (appS n s ws rs).st = s.st ∧ (appS n s ws rs).len = s.len := by
  unfold appS
  split <;> exact ⟨rfl, rfl⟩
theorem read_write_free {n : Nat} {d : X.DS} (h : Free n d) (j : Nat) (xs : List Int) (i : Nat) : (d.write j xs).read i = if i = j then xs else d.read i := by
  rw [X.DS.read_write]
  by_cases hij : i = j
  · rw [if_pos hij, if_pos hij, h.gho]
    split <;> rfl
  · rw [if_neg hij, if_neg hij]
def Heads (d : X.DS) (s : LS) : Prop := s.live = [] → d.read s.st = hdB s.seq s.pl
theorem Heads.new {n st ln : Nat} (h1 : 1 ≤ n) (h2 : n ≤ 1024) (ha : areaB n (st : Int) (ln : Int) = true) : Heads (newD n st ln) (newS st ln) := fun _ => new_read h1 h2 ha
theorem Heads.app {n : Nat} {d : X.DS} {s : LS} {ws : List S66} {rs : List Int} (h : Heads d s) : Heads (appD n d s ws rs) (appS n s ws rs) := by
  unfold appD appS
  by_cases he : appE n s ws rs = 0
  · rw [if_pos he, if_pos he]
    intro hl
    exact absurd (congrArg List.length hl) (by show (s.live ++ [_]).length ≠ 0; rw [List.length_append]; simp)
  · rw [if_neg he, if_neg he]
    exact h
theorem home_head {n : Nat} {d : X.DS} {s : LS} (hf : Free n d) (hs : s.Ok n) (h : Heads d s) : (homeD d s).read s.st = hdB s.seq s.pl := by
  unfold homeD
  by_cases hl : s.live = []
  · rw [if_pos hl]
    exact h hl
  · rw [if_neg hl]
    have h0 := ((hf.flush).ap (fun t ht => live_w hs ht) s.live.length).flush
    have h1 := h0.write (show s.st < n by have := hs.fit; have := hs.l0; omega) (hdB_length s.seq s.pl) (hdB_u8 _ _)
    rw [X.DS.read_flush h1.ok, read_write_free h0, if_pos rfl]
theorem Heads.home {n : Nat} {d : X.DS} {s : LS} (hf : Free n d) (hs : s.Ok n) (h : Heads d s) : Heads (homeD d s) (homeS s) := fun _ => home_head hf hs h
def LS.room (s : LS) : Nat := s.len - 1 - s.used
theorem appE_of {n : Nat} {s : LS} {ws : List S66} {rs : List Int} (h : s.Ok n) : (appE n s ws rs = 0 ∧ ws.length + 2 ≤ s.room ∧ (appS n s ws rs).room = s.room - (ws.length + 2) ∧ (appS n s ws rs).seq = IntKind.u64.wrap (s.seq + 1)) ∨ (appE n s ws rs = 9 ∧ s.room < ws.length + 2 ∧ appS n s ws rs = s) ∨ (appE n s ws rs = 17 ∧ appS n s ws rs = s) := by
  have hu := h.us
  unfold LS.room
  rcases appE_cases n s ws rs with he | he | he
  · obtain ⟨-, -, h3⟩ := appE_zero he
    refine .inl ⟨he, by omega, ?_, ?_⟩
    · unfold appS
      rw [if_pos he, used_snoc]
      show s.len - 1 - (s.used + (ws.length + 2)) = _
      omega
    · unfold appS
      rw [if_pos he]
  · refine .inr (.inl ⟨he, ?_, if_neg (by rw [he]; decide)⟩)
    unfold appE at he
    split at he
    · split at he
      · cases he
      · omega
    · cases he
  · exact .inr (.inr ⟨he, if_neg (by rw [he]; decide)⟩)
end Go.Proofs.Ytlbfpjhnpnbikaa.Pure
end
section
namespace Go.Proofs.Ytlbfpjhnpnbikaa.U
open Go.RowKit Go.Proofs.YtlbfpjhnpnbikaaW.PrintWords Go.Proofs.YtlbfpjhnpnbikaaW.PrintLast Go.Proofs.YtlbfpjhnpnbikaaW.PrintMore
attribute [local go_sem] max2_int min2_int max_two min_two max_three min_three max_four min_four
set_option linter.unusedVariables false
set_option linter.unusedSimpArgs false
theorem log_Room.part (w0 w : World) (L : List X.Res) (g p : Nat) (ls : Pure.LS) (v : Value) (h : X.Lies w0 w (.box g (Pure.logC p ls v) 93 :: L)) (hl : ls.len ≤ 1024) (hu : ls.used ≤ ls.len - 1) :
    Calls Try.prog 18 #[.pointer (some ⟨g, 0, none⟩)] w fun e w' => e = .returned (.int .i64 ((ls.len - 1 - ls.used : Nat) : Int)) ∧ X.Lies w0 w' (.box g (Pure.logC p ls v) 93 :: L) := by
  obtain ⟨r, hr⟩ : ∃ r : Nat, r = ls.len - 1 := ⟨_, rfl⟩
  have HR := Aside0.mk hr
  have hw : wrap64 ((r : Int) - (ls.used : Int)) = ((ls.len - 1 - ls.used : Nat) : Int) := by unfold wrap64; omega
  obtain ⟨t, ht⟩ : ∃ t : Int, t = ((ls.len - 1 - ls.used : Nat) : Int) := ⟨_, rfl⟩
  rw [← ht] at hw ⊢
  have HS := Aside0.mk h
  clear h hl hu ht hr
  go_enter Try.func18, Try.ntmps18
  go_wp2_with fail
  refine start_ (n := 10) (S := (fun w' => X.Blk w' g (Pure.logC p ls v) 93)) (ds := []) #[false, false, false, false, false, false, false, false, false, false] (by kernel_rfl) rfl rfl (HS.out.drew.boxed 0 rfl) (fun hHeld => ?_)
  have HSa := Aside0.mk (HS.out.drew)
  generalize World.drew _ = wa at *
  clear HS
  refine pure_ (i := 0) (N := some 5) (v := ?_) (a' := ?_) #[true, false, false, false, false, false, false, false, false, false] rfl rfl (by kernel_rfl) (fun _ _ _ h => h) (Or.inl ⟨by rfl, ?_⟩) ?_ ?_
  rotate_left
  · intro w'
    go_simp
    with_reducible rfl
  rotate_left
  · simp only [Act.put, List.setIfInBounds_toArray, List.set_cons_zero, List.set_cons_succ, i64_w, i32_w]
    rfl
  refine pure_ (i := 1) (N := some 6) (v := ?_) (a' := ?_) #[true, true, false, false, false, false, false, false, false, false] rfl rfl (by kernel_rfl) (fun _ _ _ h => h) (Or.inl ⟨by rfl, ?_⟩) ?_ ?_
  rotate_left
  · intro w'
    go_simp
    with_reducible rfl
  rotate_left
  · simp only [Act.put, List.setIfInBounds_toArray, List.set_cons_zero, List.set_cons_succ, i64_w, i32_w]
    rfl
  refine pure_ (i := 2) (N := some 7) (v := ?_) (a' := ?_) #[true, true, true, false, false, false, false, false, false, false] rfl rfl (by kernel_rfl) (fun _ _ _ h => h) (Or.inl ⟨by rfl, ?_⟩) ?_ ?_
  rotate_left
  · intro w'
    go_simp
    with_reducible rfl
  rotate_left
  · simp only [Act.put, List.setIfInBounds_toArray, List.set_cons_zero, List.set_cons_succ, i64_w, i32_w]
    rfl
  refine take_ (i := 3) (N := some 8) (v := .int .i64 (r : Int)) (a' := ?_) #[true, true, true, true, false, false, false, false, false, false] rfl rfl (by kernel_rfl) (fun _ _ _ h => h) (Or.inl ⟨by rfl, ?_⟩) hHeld ?_ ?_
  · intro w' hs_
    exact (by have x_ : w'.cell? ⟨g, 2, none⟩ = some (.int .i64 (r : Int)) := (by rw [HR.out]; exact hs_.cell 2 _ rfl); go_simp; done)
  rotate_left
  · simp only [Act.put, List.setIfInBounds_toArray, List.set_cons_zero, List.set_cons_succ, i64_w, i32_w]
    rfl
  refine pure_ (i := 4) (N := some 9) (v := ?_) (a' := ?_) #[true, true, true, true, true, false, false, false, false, false] rfl rfl (by kernel_rfl) (fun _ _ _ h => h) (Or.inl ⟨by rfl, ?_⟩) ?_ ?_
  rotate_left
  · intro w'
    go_simp
    with_reducible rfl
  rotate_left
  · simp only [Act.put, List.setIfInBounds_toArray, List.set_cons_zero, List.set_cons_succ, i64_w, i32_w]
    rfl
  refine pure_ (i := 5) (N := some 10) (v := ?_) (a' := ?_) #[true, true, true, true, true, true, false, false, false, false] rfl rfl (by kernel_rfl) (fun _ _ _ h => h) (Or.inl ⟨by rfl, ?_⟩) ?_ ?_
  rotate_left
  · intro w'
    go_simp
    with_reducible rfl
  rotate_left
  · simp only [Act.put, List.setIfInBounds_toArray, List.set_cons_zero, List.set_cons_succ, i64_w, i32_w]
    rfl
  refine pure_ (i := 6) (N := some 11) (v := ?_) (a' := ?_) #[true, true, true, true, true, true, true, false, false, false] rfl rfl (by kernel_rfl) (fun _ _ _ h => h) (Or.inl ⟨by rfl, ?_⟩) ?_ ?_
  rotate_left
  · intro w'
    go_simp
    with_reducible rfl
  rotate_left
  · simp only [Act.put, List.setIfInBounds_toArray, List.set_cons_zero, List.set_cons_succ, i64_w, i32_w]
    rfl
  refine take_ (i := 7) (N := some 12) (v := .int .i64 (ls.used : Int)) (a' := ?_) #[true, true, true, true, true, true, true, true, false, false] rfl rfl (by kernel_rfl) (fun _ _ _ h => h) (Or.inl ⟨by rfl, ?_⟩) hHeld ?_ ?_
  · intro w' hs_
    exact (by have x_ : w'.cell? ⟨g, 6, none⟩ = some (.int .i64 (ls.used : Int)) := hs_.cell 6 _ rfl; go_simp; done)
  rotate_left
  · simp only [Act.put, List.setIfInBounds_toArray, List.set_cons_zero, List.set_cons_succ, i64_w, i32_w]
    rfl
  refine pure_ (i := 8) (N := some 13) (v := .int .i64 t) (a' := ?_) #[true, true, true, true, true, true, true, true, true, false] rfl rfl (by kernel_rfl) (fun _ _ _ h => h) (Or.inl ⟨by rfl, ?_⟩) ?_ ?_
  · intro w'
    exact (by go_simp; first | done | (rw [i64_w]; assumption))
  rotate_left
  · simp only [Act.put, List.setIfInBounds_toArray, List.set_cons_zero, List.set_cons_succ, i64_w, i32_w]
    rfl
  refine pure_ (i := 9) (N := some 2) (v := .int .i64 t) (a' := ?_) #[true, true, true, true, true, true, true, true, true, true] rfl rfl (by kernel_rfl) (fun _ _ _ h => h) (Or.inl ⟨by rfl, ?_⟩) ?_ ?_
  · intro w'
    exact (by go_simp; first | done | (rw [i64_w]; assumption))
  rotate_left
  · simp only [Act.put, List.setIfInBounds_toArray, List.set_cons_zero, List.set_cons_succ, i64_w, i32_w]
    rfl
  refine done_ (by kernel_rfl) ?_
  go_wp2
  go_ret
  exact ⟨rfl, HSa.out⟩
end Go.Proofs.Ytlbfpjhnpnbikaa.U
end
