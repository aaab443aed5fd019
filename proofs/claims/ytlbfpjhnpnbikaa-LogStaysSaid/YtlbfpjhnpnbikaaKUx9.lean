/- PLog4 PLog5 Ux9: what this claim uses. Laid by slim.py (ours). -/
import Derived.Test.YtlbfpjhnpnbikaaKUx0
import Derived.Test.YtlbfpjhnpnbikaaKUx23
import Derived.Test.YtlbfpjhnpnbikaaKPLog3
import Derived.Test.YtlbfpjhnpnbikaaKUx38
import Derived.Test.YtlbfpjhnpnbikaaKPLog
section
namespace Go.Proofs.Ytlbfpjhnpnbikaa.Pure
open Go Go.RowKit Go.Proofs.Ytlbfpjhnpnbikaa.U Go.Proofs.YtlbfpjhnpnbikaaW.PrintWords Go.Proofs.YtlbfpjhnpnbikaaW.PrintLast Go.Proofs.YtlbfpjhnpnbikaaW.PrintMore
set_option linter.unusedVariables false
set_option linter.unusedSimpArgs false
theorem Sound.mono {n : Nat} {d : X.DS} {s : LS} {k k2 : Nat} (h : Sound n d s k) (hk : k ≤ k2) : Sound n d s k2 := ⟨h.free, h.ok, by have := h.pend; omega, by have := h.live; omega⟩
theorem appS_st (n : Nat) (s : LS) (ws : List S66) (rs : List Int) : (appS n s ws rs).st = s.st ∧ (appS n s ws rs).len = s.len := by
  unfold appS
  split <;> exact ⟨rfl, rfl⟩
theorem read_write_free {n : Nat} {d : X.DS} (h : Free n d) (j : Nat) (xs : List Int) (i : Nat) : (d.write j xs).read i = if i = j then xs else d.read i := by
  rw [X.DS.read_write]
  by_cases hij : i = j
  · rw [if_pos hij, if_pos hij, h.gho]
    split <;> rfl
  · rw [if_neg hij, if_neg hij]
theorem ring_read {n : Nat} {d : X.DS} {s : LS} {enc : List Int} {N : Nat} (h : Free n d) (hs : s.Ok n) (hl : enc.length = N * 256) (hu : X.u8all enc = true) {j : Nat} (hj : j ≤ s.st ∨ s.st + s.len ≤ j) : ∀ i, i ≤ N → (ringW d s enc i).read j = d.read j
  | 0, _ => rfl
  | i + 1, hi => by
    have ih := ring_read h hs hl hu hj i (by omega)
    have hf := h.ring hs hl hu i (by omega)
    have := Nat.mod_lt (s.pl + i) (show 0 < s.len - 1 by have := hs.l0; omega)
    rw [ringW, read_write_free hf, if_neg (by omega), ih]
theorem app_read {n : Nat} {d : X.DS} {s : LS} {ws : List S66} {rs : List Int} (h : Free n d) (hs : s.Ok n) (hc : Came s.seq ws rs) {j : Nat} (hj : j ≤ s.st ∨ s.st + s.len ≤ j) : (appD n d s ws rs).read j = d.read j := by
  unfold appD
  by_cases he : appE n s ws rs = 0
  · rw [if_pos he]
    obtain ⟨-, hm, -⟩ := appE_zero he
    exact ring_read h hs (encL_length hm) (encL_u8 hc.data) hj _ (Nat.le_refl _)
  · rw [if_neg he]
def Heads (d : X.DS) (s : LS) : Prop := s.live = [] → d.read s.st = hdB s.seq s.pl
theorem Heads.new {n st ln : Nat} (h1 : 1 ≤ n) (h2 : n ≤ 1024) (ha : areaB n (st : Int) (ln : Int) = true) : Heads (newD n st ln) (newS st ln) := fun _ => new_read h1 h2 ha
theorem Heads.app {n : Nat} {d : X.DS} {s : LS} {ws : List S66} {rs : List Int} (h : Heads d s) : Heads (appD n d s ws rs) (appS n s ws rs) := by
  unfold appD appS
  by_cases he : appE n s ws rs = 0
  · rw [if_pos he, if_pos he]
    intro hl
    exact absurd (congrArg List.length hl) (by show (s.live ++ [_]).length ≠ 0; rw [List.length_append]; simp)
  · rw [if_neg he, if_neg he]
    exact h
end Go.Proofs.Ytlbfpjhnpnbikaa.Pure
end
section
namespace Go.Proofs.Ytlbfpjhnpnbikaa.Pure
open Go Go.RowKit Go.Proofs.Ytlbfpjhnpnbikaa.U Go.Proofs.YtlbfpjhnpnbikaaW.PrintWords Go.Proofs.YtlbfpjhnpnbikaaW.PrintLast Go.Proofs.YtlbfpjhnpnbikaaW.PrintMore
set_option linter.unusedVariables false
set_option linter.unusedSimpArgs false
theorem image_len {s : X.DS} {n : Nat} (h : s.Ok n) (m : Nat) (hm : m ≤ n) : (imageTo s m).length = 256 * m := imageTo_length h m hm
theorem image_split (s : X.DS) (m n : Nat) (hm : m ≤ n) : imageTo s n = imageTo s m ++ ((List.range n).drop m).flatMap s.read := by
  unfold imageTo
  conv => lhs; rw [← List.take_append_drop m (List.range n), List.flatMap_append, List.take_range, Nat.min_eq_left hm]
theorem image_take {s : X.DS} {n m : Nat} (h : s.Ok n) (hm : m ≤ n) : (imageTo s n).take (256 * m) = imageTo s m := by
  rw [image_split s m n hm, ← image_len h m hm, List.take_left']
  rfl
theorem image_drop {s : X.DS} {n m : Nat} (h : s.Ok n) (hm : m ≤ n) : (imageTo s n).drop (256 * m) = ((List.range n).drop m).flatMap s.read := by
  rw [image_split s m n hm, ← image_len h m hm, List.drop_left']
  rfl
theorem flat_same {α : Type} (f g : Nat → List α) : ∀ l : List Nat, (∀ x ∈ l, f x = g x) → l.flatMap f = l.flatMap g
  | [], _ => rfl
  | x :: r, h => by rw [List.flatMap_cons, List.flatMap_cons, h x List.mem_cons_self, flat_same f g r (fun y hy => h y (List.mem_cons_of_mem _ hy))]
theorem image_low {s t : X.DS} {n m : Nat} (hs : s.Ok n) (ht : t.Ok n) (hm : m ≤ n) (h : ∀ i, i < m → s.read i = t.read i) : (imageTo s n).take (256 * m) = (imageTo t n).take (256 * m) := by
  rw [image_take hs hm, image_take ht hm]
  exact flat_same _ _ _ (fun x hx => h x (List.mem_range.1 hx))
theorem image_high {s t : X.DS} {n m : Nat} (hs : s.Ok n) (ht : t.Ok n) (hm : m ≤ n) (h : ∀ i, m ≤ i → s.read i = t.read i) : (imageTo s n).drop (256 * m) = (imageTo t n).drop (256 * m) := by
  rw [image_drop hs hm, image_drop ht hm]
  refine flat_same _ _ _ (fun x hx => h x ?_)
  obtain ⟨k, hk⟩ := List.mem_iff_getElem?.1 hx
  rw [List.getElem?_drop] at hk
  obtain ⟨hl, he⟩ := List.getElem?_eq_some_iff.1 hk
  rw [List.getElem_range] at he
  omega
end Go.Proofs.Ytlbfpjhnpnbikaa.Pure
end
section
namespace Go.Proofs.Ytlbfpjhnpnbikaa.U
open Go.RowKit Go.Proofs.YtlbfpjhnpnbikaaW.PrintWords Go.Proofs.YtlbfpjhnpnbikaaW.PrintLast Go.Proofs.YtlbfpjhnpnbikaaW.PrintMore
attribute [local go_sem] max2_int min2_int max_two min_two max_three min_three max_four min_four
set_option linter.unusedVariables false
set_option linter.unusedSimpArgs false
theorem log_Room.part (w0 w : World) (L : List X.Res) (g p : Nat) (ls : Pure.LS) (v : Value) (h : X.Lies w0 w (.box g (Pure.logC p ls v) 93 :: L)) (hl : ls.len ≤ 1024) (hu : ls.used ≤ ls.len - 1) :
    Calls Try.prog 18 #[.pointer (some ⟨g, 0, none⟩)] w fun e w' => e = .returned (.int .i64 ((ls.len - 1 - ls.used : Nat) : Int)) ∧ X.Lies w0 w' (.box g (Pure.logC p ls v) 93 :: L) := by
  obtain ⟨r, hr⟩ : ∃ r : Nat, r = ls.len - 1 := ⟨_, rfl⟩
  have HR := Aside0.mk hr
  have hw : wrap64 ((r : Int) - (ls.used : Int)) = ((ls.len - 1 - ls.used : Nat) : Int) := by unfold wrap64; omega
  obtain ⟨t, ht⟩ : ∃ t : Int, t = ((ls.len - 1 - ls.used : Nat) : Int) := ⟨_, rfl⟩
  rw [← ht] at hw ⊢
  have HS := Aside0.mk h
  clear h hl hu ht hr
  go_enter Try.func18, Try.ntmps18
  go_wp2_with fail
  refine start_ (n := 10) (S := (fun w' => X.Blk w' g (Pure.logC p ls v) 93)) (ds := []) #[false, false, false, false, false, false, false, false, false, false] (by kernel_rfl) rfl rfl (HS.out.drew.boxed 0 rfl) (fun hHeld => ?_)
  have HSa := Aside0.mk (HS.out.drew)
  generalize World.drew _ = wa at *
  clear HS
  refine pure_ (i := 0) (N := some 5) (v := ?_) (a' := ?_) #[true, false, false, false, false, false, false, false, false, false] rfl rfl (by kernel_rfl) (fun _ _ _ h => h) (Or.inl ⟨by rfl, ?_⟩) ?_ ?_
  rotate_left
  · intro w'
    go_simp
    with_reducible rfl
  rotate_left
  · simp only [Act.put, List.setIfInBounds_toArray, List.set_cons_zero, List.set_cons_succ, i64_w, i32_w]
    rfl
  refine pure_ (i := 1) (N := some 6) (v := ?_) (a' := ?_) #[true, true, false, false, false, false, false, false, false, false] rfl rfl (by kernel_rfl) (fun _ _ _ h => h) (Or.inl ⟨by rfl, ?_⟩) ?_ ?_
  rotate_left
  · intro w'
    go_simp
    with_reducible rfl
  rotate_left
  · simp only [Act.put, List.setIfInBounds_toArray, List.set_cons_zero, List.set_cons_succ, i64_w, i32_w]
    rfl
  refine pure_ (i := 2) (N := some 7) (v := ?_) (a' := ?_) #[true, true, true, false, false, false, false, false, false, false] rfl rfl (by kernel_rfl) (fun _ _ _ h => h) (Or.inl ⟨by rfl, ?_⟩) ?_ ?_
  rotate_left
  · intro w'
    go_simp
    with_reducible rfl
  rotate_left
  · simp only [Act.put, List.setIfInBounds_toArray, List.set_cons_zero, List.set_cons_succ, i64_w, i32_w]
    rfl
  refine take_ (i := 3) (N := some 8) (v := .int .i64 (r : Int)) (a' := ?_) #[true, true, true, true, false, false, false, false, false, false] rfl rfl (by kernel_rfl) (fun _ _ _ h => h) (Or.inl ⟨by rfl, ?_⟩) hHeld ?_ ?_
  · intro w' hs_
    exact (by have x_ : w'.cell? ⟨g, 2, none⟩ = some (.int .i64 (r : Int)) := (by rw [HR.out]; exact hs_.cell 2 _ rfl); go_simp; done)
  rotate_left
  · simp only [Act.put, List.setIfInBounds_toArray, List.set_cons_zero, List.set_cons_succ, i64_w, i32_w]
    rfl
  refine pure_ (i := 4) (N := some 9) (v := ?_) (a' := ?_) #[true, true, true, true, true, false, false, false, false, false] rfl rfl (by kernel_rfl) (fun _ _ _ h => h) (Or.inl ⟨by rfl, ?_⟩) ?_ ?_
  rotate_left
  · intro w'
    go_simp
    with_reducible rfl
  rotate_left
  · simp only [Act.put, List.setIfInBounds_toArray, List.set_cons_zero, List.set_cons_succ, i64_w, i32_w]
    rfl
  refine pure_ (i := 5) (N := some 10) (v := ?_) (a' := ?_) #[true, true, true, true, true, true, false, false, false, false] rfl rfl (by kernel_rfl) (fun _ _ _ h => h) (Or.inl ⟨by rfl, ?_⟩) ?_ ?_
  rotate_left
  · intro w'
    go_simp
    with_reducible rfl
  rotate_left
  · simp only [Act.put, List.setIfInBounds_toArray, List.set_cons_zero, List.set_cons_succ, i64_w, i32_w]
    rfl
  refine pure_ (i := 6) (N := some 11) (v := ?_) (a' := ?_) #[true, true, true, true, true, true, true, false, false, false] rfl rfl (by kernel_rfl) (fun _ _ _ h => h) (Or.inl ⟨by rfl, ?_⟩) ?_ ?_
  rotate_left
  · intro w'
    go_simp
    with_reducible rfl
  rotate_left
  · simp only [Act.put, List.setIfInBounds_toArray, List.set_cons_zero, List.set_cons_succ, i64_w, i32_w]
    rfl
  refine take_ (i := 7) (N := some 12) (v := .int .i64 (ls.used : Int)) (a' := ?_) #[true, true, true, true, true, true, true, true, false, false] rfl rfl (by kernel_rfl) (fun _ _ _ h => h) (Or.inl ⟨by rfl, ?_⟩) hHeld ?_ ?_
  · intro w' hs_
    exact (by have x_ : w'.cell? ⟨g, 6, none⟩ = some (.int .i64 (ls.used : Int)) := hs_.cell 6 _ rfl; go_simp; done)
  rotate_left
  · simp only [Act.put, List.setIfInBounds_toArray, List.set_cons_zero, List.set_cons_succ, i64_w, i32_w]
    rfl
  refine pure_ (i := 8) (N := some 13) (v := .int .i64 t) (a' := ?_) #[true, true, true, true, true, true, true, true, true, false] rfl rfl (by kernel_rfl) (fun _ _ _ h => h) (Or.inl ⟨by rfl, ?_⟩) ?_ ?_
  · intro w'
    exact (by go_simp; first | done | (rw [i64_w]; assumption))
  rotate_left
  · simp only [Act.put, List.setIfInBounds_toArray, List.set_cons_zero, List.set_cons_succ, i64_w, i32_w]
    rfl
  refine pure_ (i := 9) (N := some 2) (v := .int .i64 t) (a' := ?_) #[true, true, true, true, true, true, true, true, true, true] rfl rfl (by kernel_rfl) (fun _ _ _ h => h) (Or.inl ⟨by rfl, ?_⟩) ?_ ?_
  · intro w'
    exact (by go_simp; first | done | (rw [i64_w]; assumption))
  rotate_left
  · simp only [Act.put, List.setIfInBounds_toArray, List.set_cons_zero, List.set_cons_succ, i64_w, i32_w]
    rfl
  refine done_ (by kernel_rfl) ?_
  go_wp2
  go_ret
  exact ⟨rfl, HSa.out⟩
end Go.Proofs.Ytlbfpjhnpnbikaa.U
end
