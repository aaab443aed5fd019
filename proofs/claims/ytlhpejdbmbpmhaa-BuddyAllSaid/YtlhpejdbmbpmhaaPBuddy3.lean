/- Take, Give and Free as wholes: the program's and the document's answers are one. -/
import Derived.Test.YtlhpejdbmbpmhaaUx2
import Derived.Test.YtlhpejdbmbpmhaaUx6
import Derived.Test.YtlhpejdbmbpmhaaUx8
import Derived.Test.YtlhpejdbmbpmhaaUx13
import Derived.Test.YtlhpejdbmbpmhaaUx18
import Derived.Test.YtlhpejdbmbpmhaaUx19
import Derived.Test.YtlhpejdbmbpmhaaUx20
import Derived.Test.YtlhpejdbmbpmhaaUx22
import Derived.Test.YtlhpejdbmbpmhaaPBuddy
namespace Go.Proofs.Ytlhpejdbmbpmhaa.Pure
open Go Go.RowKit Go.Proofs.Ytlhpejdbmbpmhaa.U Go.Proofs.YtlhpejdbmbpmhaaW.PrintWords Go.Proofs.YtlhpejdbmbpmhaaW.PrintLast Go.Proofs.YtlhpejdbmbpmhaaW.PrintMore
set_option linter.unusedVariables false
set_option linter.unusedSimpArgs false
open X (cntP firP)
theorem IsFrom.far {l : List Int} {n o g : Nat} (hg : n ≤ g) : IsFrom l n o g (-1) := .inl ⟨rfl, fun c _ h => freeB_no (by have : 1 ≤ 2 ^ o := Nat.one_le_two_pow; omega)⟩
theorem IsFind.uniq {l : List Int} {n o g : Nat} {r r' : Int} (h : IsFind l n o g r) (h' : IsFind l n o g r') : r = r' := by
  rcases h with ⟨h1, h2⟩ | ⟨h1, h2⟩ <;> rcases h' with ⟨h1', h2'⟩ | ⟨h1', h2'⟩
  · exact h1.uniq h1'
  · have := h1.uniq h1'
    omega
  · have := h1.uniq h1'
    omega
  · exact h2.uniq h2'
theorem IsFind.min_ {l : List Int} {n o g : Nat} {r : Int} (h : IsFind l n o (min g n) r) : IsFind l n o g r := by
  by_cases hg : g ≤ n
  · rwa [Nat.min_eq_left hg] at h
  · rw [Nat.min_eq_right (by omega)] at h
    rcases h with ⟨h1, h2⟩ | ⟨_, h2⟩
    · have := h1.uniq (IsFrom.far (Nat.le_refl _))
      omega
    · exact .inr ⟨IsFrom.far (by omega), h2⟩
theorem IsFind.found {l : List Int} {n o g : Nat} {r : Int} (h : IsFind l n o g r) (h0 : 0 ≤ r) : ∃ c : Nat, r = (c : Int) ∧ c % 2 ^ o = 0 ∧ freeB l n c o = true := by
  have key : ∀ g, IsFrom l n o g r → ∃ c : Nat, r = (c : Int) ∧ c % 2 ^ o = 0 ∧ freeB l n c o = true := by
    intro g h
    rcases h with ⟨h1, _⟩ | ⟨c, h1, h2, _, h4, _⟩
    · omega
    · exact ⟨c, h1, h2, h4⟩
  rcases h with ⟨h1, _⟩ | ⟨_, h2⟩
  · exact key _ h1
  · exact key _ h2
theorem IsFind.none_ {l : List Int} {n o g : Nat} {r : Int} (h : IsFind l n o g r) (h0 : r < 0) : ∀ c, c % 2 ^ o = 0 → freeB l n c o = false := by
  rcases h with ⟨_, h2⟩ | ⟨_, h2⟩
  · omega
  · rcases h2 with ⟨_, h⟩ | ⟨c, h, _⟩
    · exact fun c h1 => h c h1 (Nat.zero_le _)
    · omega
/-- What Take answers behind its conditions, K being the greatest order that is looked at (one less: none). -/
def Took (l : List Int) (n want K : Nat) (res : List Int × Int × Int × Int) : Prop :=
  (res = ([], 0, 0, 9) ∧ ∀ o, o < K → ∀ c, c % 2 ^ o = 0 → freeB l n c o = false) ∨
  ∃ (o c : Nat) (r : List Int), o < K ∧ c % 2 ^ o = 0 ∧ freeB l n c o = true ∧ (∀ o', o < o' → o' < K → ∀ c', c' % 2 ^ o' = 0 → freeB l n c' o' = false) ∧ IsFill l c (c + min want (2 ^ o)) true r ∧ res = (r, (c : Int), ((min want (2 ^ o) : Nat) : Int), 0)
theorem Took.down {l : List Int} {n want K : Nat} {res : List Int × Int × Int × Int} (h : Took l n want K res) (hK : ∀ c, c % 2 ^ K = 0 → freeB l n c K = false) : Took l n want (K + 1) res := by
  rcases h with ⟨h1, h2⟩ | ⟨o, c, r, h1, h2, h3, h4, h5, h6⟩
  · refine .inl ⟨h1, fun o ho c hc => ?_⟩
    rcases Nat.lt_or_ge o K with h | h
    · exact h2 o h c hc
    · obtain rfl : o = K := by omega
      exact hK c hc
  · refine .inr ⟨o, c, r, by omega, h2, h3, fun o' h7 h8 c' hc' => ?_, h5, h6⟩
    rcases Nat.lt_or_ge o' K with h | h
    · exact h4 o' h7 h c' hc'
    · obtain rfl : o' = K := by omega
      exact hK c' hc'
theorem mn_nat (a b : Nat) : mn (a : Int) (b : Int) = ((min a b : Nat) : Int) := by unfold mn; omega
theorem took_l (l : List Int) (hl : X.u8all l = true) (hm : l.length ≤ 140737488351232) (n : Nat) (hn : n ≤ 8 * l.length) (want g : Nat) (hw : 1 ≤ want) (K : Nat) (hK : K ≤ 7) : ∀ (k : Nat), 16 * l.length + 160 + K < k →
    ∃ res, buddy_Take.l0 k l (want : Int) ((min g n : Nat) : Int) ((K : Int) - 1) l (n : Int) = some res ∧ undercroftref08_Take.l1 k l (n : Int) (want : Int) (g : Int) ((K : Int) - 1) = some res ∧ Took l n want K res := by
  induction K with
  | zero =>
    intro k hk
    obtain ⟨k, rfl⟩ : ∃ m, k = m + 1 := ⟨k - 1, by omega⟩
    rw [buddy_Take.l0, undercroftref08_Take.l1, if_neg (by omega), if_neg (by omega)]
    exact ⟨_, rfl, rfl, .inl ⟨rfl, fun o h => absurd h (Nat.not_lt_zero _)⟩⟩
  | succ K ih =>
    intro k hk
    obtain ⟨k, rfl⟩ : ∃ m, k = m + 1 := ⟨k - 1, by omega⟩
    have hp := pow6 K (by omega)
    have e1 : ((K + 1 : Nat) : Int) - 1 = (K : Int) := by omega
    obtain ⟨r1, h1, h2⟩ := from_f l hl (by omega) n hn K (by omega) (min g n) (Nat.min_le_right _ _) k (by omega)
    obtain ⟨r0, h3, h4⟩ := from_f l hl (by omega) n hn K (by omega) 0 (Nat.zero_le _) k (by omega)
    replace h3 : buddy_pool_from.f k l (n : Int) 0 (K : Int) = some r0 := h3
    obtain ⟨r, h5, h6⟩ := find_f l hl (by omega) n hn K (by omega) g k (by omega)
    obtain ⟨res, h7, h8, h9⟩ := ih (by omega) k (by omega)
    have hk0 : (0 : Int) ≤ (K : Int) := by omega
    -- a chunk is found
    have got : 0 ≤ r → ∃ res, ((bits_Fill.f k l r (wrap64 (r + mn (want : Int) ((2 ^ K : Nat) : Int))) true).bind fun t => some (t, r, mn (want : Int) ((2 ^ K : Nat) : Int), (0 : Int))) = some res ∧
        ((undercroftref07_Fill.f k l r (wrap64 (r + mn (want : Int) ((2 ^ K : Nat) : Int))) true).bind fun t => some (t, r, mn (want : Int) ((2 ^ K : Nat) : Int), (0 : Int))) = some res ∧ Took l n want (K + 1) res := by
      intro h0
      obtain ⟨c, hc, hc2, hc3⟩ := h6.found h0
      subst hc
      have hle := freeB_le hc3
      have hmin : min want (2 ^ K) ≤ 2 ^ K := Nat.min_le_right _ _
      have w2 : wrap64 ((c : Int) + ((min want (2 ^ K) : Nat) : Int)) = ((c + min want (2 ^ K) : Nat) : Int) := by rw [wrap_id (by omega) (by omega)]; rfl
      rw [mn_nat, w2]
      clear w2
      have hle8 : c + min want (2 ^ K) ≤ 8 * l.length := by omega
      obtain ⟨s, h10, h11⟩ := fill_f l hl hm (c : Int) ((c + min want (2 ^ K) : Nat) : Int) true k (by omega)
      obtain ⟨s', h12, h13⟩ := refFill_f l hl hm (c : Int) ((c + min want (2 ^ K) : Nat) : Int) true k (by omega)
      have := h11.uniq h13
      subst this
      rw [loN_nat, hiN_nat hle8] at h11
      rw [h10, h12]
      exact ⟨_, rfl, rfl, .inr ⟨K, c, s, Nat.lt_succ_self _, hc2, hc3, fun o' h1 h2 => by omega, h11, rfl⟩⟩
    have w1 : wrap64 ((K : Int) - 1) = (K : Int) - 1 := wrap_id (by omega) (by omega)
    rw [e1, buddy_Take.l0, undercroftref08_Take.l1, if_pos hk0, if_pos hk0, h1, h3, h5, Option.bind_some, Option.bind_some, Option.bind_some, shlw K (by omega), w1]
    clear w1
    by_cases hr1 : r1 < 0
    · rw [if_pos hr1]
      have hf : IsFind l n K g r0 := by
        have : r1 = -1 := by
          rcases h2 with ⟨h, _⟩ | ⟨c, h, _⟩
          · exact h
          · omega
        subst this
        exact IsFind.min_ (.inr ⟨h2, h4⟩)
      obtain rfl := h6.uniq hf
      by_cases hr : r < 0
      · rw [if_pos hr, if_neg (by omega)]
        exact ⟨res, h7, h8, h9.down (h6.none_ hr)⟩
      · rw [if_neg hr, if_pos hk0, if_pos (by omega), if_pos hk0]
        exact got (by omega)
    · rw [if_neg hr1, if_pos hk0]
      obtain rfl := h6.uniq (IsFind.min_ (.inl ⟨h2, by omega⟩))
      rw [if_pos (by omega), if_pos hk0]
      exact got (by omega)
/-- The least order whose chunk is as long as what is wanted. -/
def ordN (want : Nat) : Nat := len8 (want - 1)
theorem ordN_spec : ∀ w : Fin 65, 1 ≤ w.val → ordN w.val ≤ 6 ∧ w.val ≤ 2 ^ ordN w.val ∧ ∀ j : Fin 7, j.val < ordN w.val → 2 ^ j.val < w.val := by decide +kernel
theorem ordN_le {want : Nat} (h : want ≤ 64) (h1 : 1 ≤ want) : ordN want ≤ 6 ∧ want ≤ 2 ^ ordN want ∧ ∀ j, j < ordN want → 2 ^ j < want := by
  obtain ⟨h2, h3, h4⟩ : ordN want ≤ 6 ∧ want ≤ 2 ^ ordN want ∧ ∀ j : Fin 7, j.val < ordN want → 2 ^ j.val < want := ordN_spec ⟨want, by omega⟩ h1
  exact ⟨h2, h3, fun j hj => h4 ⟨j, by omega⟩ hj⟩
theorem pool_new (l : List Int) (hm : l.length ≤ 140737488355328) (n : Int) : buddy_newPool.f l n = some (if 0 ≤ n ∧ n ≤ 8 * (l.length : Int) then (l, n, 0) else ([], 0, 1)) := by
  unfold buddy_newPool.f
  rw [wrap8 l hm]
  by_cases h1 : n < 0
  · rw [if_pos h1, if_neg (by omega)]
  · rw [if_neg h1]
    by_cases h2 : n > 8 * (l.length : Int)
    · rw [if_pos h2, if_neg (by omega)]
    · rw [if_neg h2, if_pos (by omega)]
theorem refpool (l : List Int) (hm : l.length ≤ 140737488355328) (n : Int) : undercroftref08_pool.f l n = some (decide (0 ≤ n ∧ n ≤ 8 * (l.length : Int))) := by
  unfold undercroftref08_pool.f
  rw [wrap8 l hm]
  by_cases h1 : n ≥ 0
  · rw [if_pos h1]
    congr 1
    rw [decide_eq_decide]
    omega
  · rw [if_neg h1, decide_eq_false (by omega)]
/-- What is asked lies in the bounds. -/
def TakeOk (l : List Int) (n want goal : Int) : Prop := 0 ≤ n ∧ n ≤ 8 * (l.length : Int) ∧ 1 ≤ want ∧ want ≤ 64 ∧ 0 ≤ goal
theorem refTake_l0 (l : List Int) (n : Int) (want : Nat) (h1 : 1 ≤ want) (h64 : want ≤ 64) (g : Int) (k d : Nat) : ∀ j, j + d = ordN want →
    undercroftref08_Take.l0 (d + 1 + k) l n (want : Int) g (j : Int) = undercroftref08_Take.l1 k l n (want : Int) g ((ordN want : Nat) : Int) := by
  obtain ⟨h2, h3, h4⟩ := ordN_le h64 h1
  induction d with
  | zero =>
    intro j hj
    obtain rfl : j = ordN want := by omega
    rw [show 0 + 1 + k = k + 1 from by omega, undercroftref08_Take.l0, if_pos (by omega), shlw _ h2, if_neg (by omega)]
  | succ d ih =>
    intro j hj
    have h5 := h4 j (by omega)
    have w : wrap64 ((j : Int) + 1) = ((j + 1 : Nat) : Int) := by rw [wrap_id (by omega) (by omega)]; rfl
    rw [show d + 1 + 1 + k = d + 1 + k + 1 from by omega, undercroftref08_Take.l0, if_pos (by omega), shlw _ (by omega), if_pos (by omega), w]
    exact ih (j + 1) (by omega)
theorem len_f (want : Nat) (h1 : 1 ≤ want) (h64 : want ≤ 64) : bits_Len.f (IntKind.u64.wrap (wrap64 ((want : Int) - 1))) = some ((ordN want : Nat) : Int) := by
  have e : IntKind.u64.wrap (wrap64 ((want : Int) - 1)) = ((want - 1 : Nat) : Int) := by
    rw [wrap_id (by omega) (by omega)]
    have : IntKind.u64.wrap ((want : Int) - 1) = ((want : Int) - 1) % 18446744073709551616 := rfl
    rw [this]
    omega
  rw [e]
  unfold bits_Len.f bits_Len64.f
  rw [if_pos (by omega), Option.bind_some, Int.toNat_natCast]
  rfl
theorem take_both (l : List Int) (hl : X.u8all l = true) (hm : l.length ≤ 140737488351232) (n want goal : Int) (k : Nat) (hk : 16 * l.length + 200 < k) :
    ∃ res, buddy_Take.f k l n want goal = some res ∧ undercroftref08_Take.f k l n want goal = some res ∧ ((¬ TakeOk l n want goal ∧ res = ([], 0, 0, 1)) ∨ (TakeOk l n want goal ∧ Took l n.toNat want.toNat (ordN want.toNat + 1) res)) := by
  obtain ⟨k, rfl⟩ : ∃ m, k = m + 1 := ⟨k - 1, by omega⟩
  unfold buddy_Take.f undercroftref08_Take.f
  rw [pool_new l (by omega), refpool l (by omega), Option.bind_some, Option.bind_some]
  have bad : ∀ m a, ¬ TakeOk l n want goal → ∃ res, buddy_Take.j0 (k + 1) l n want goal true m a = some res ∧ undercroftref08_Take.j0 (k + 1) l n want goal true = some res ∧ ((¬ TakeOk l n want goal ∧ res = ([], 0, 0, 1)) ∨ (TakeOk l n want goal ∧ Took l n.toNat want.toNat (ordN want.toNat + 1) res)) := by
    intro m a h
    rw [buddy_Take.j0, undercroftref08_Take.j0, if_pos rfl, if_pos rfl]
    exact ⟨_, rfl, rfl, .inl ⟨h, rfl⟩⟩
  by_cases hp : 0 ≤ n ∧ n ≤ 8 * (l.length : Int)
  rotate_left
  · rw [if_neg hp, decide_eq_false hp]
    rw [if_neg (by decide), if_neg (by decide)]
    exact bad _ _ (fun h => hp ⟨h.1, h.2.1⟩)
  rw [if_pos hp, decide_eq_true hp, if_pos rfl, if_pos rfl]
  by_cases h1 : want < 1
  · rw [if_pos h1, if_pos h1]
    exact bad _ _ (fun h => by have := h.2.2.1; omega)
  rw [if_neg h1, if_neg h1]
  by_cases h2 : want > 64
  · rw [if_pos h2, if_pos h2]
    exact bad _ _ (fun h => by have := h.2.2.2.1; omega)
  rw [if_neg h2, if_neg h2]
  by_cases h3 : goal < 0
  · rw [decide_eq_true h3]
    exact bad _ _ (fun h => by have := h.2.2.2.2; omega)
  rw [decide_eq_false h3, buddy_Take.j0, undercroftref08_Take.j0, if_neg (by decide), if_neg (by decide)]
  clear bad
  obtain ⟨N, rfl⟩ : ∃ N : Nat, n = (N : Int) := ⟨n.toNat, by omega⟩
  obtain ⟨W, rfl⟩ : ∃ W : Nat, want = (W : Int) := ⟨want.toNat, by omega⟩
  obtain ⟨g, rfl⟩ : ∃ g : Nat, goal = (g : Int) := ⟨goal.toNat, by omega⟩
  have hW1 : 1 ≤ W := by omega
  have hW2 : W ≤ 64 := by omega
  obtain ⟨h4, h5, h6⟩ := ordN_le hW2 hW1
  obtain ⟨k', hk'⟩ : ∃ m, k = ordN W + 1 + m := ⟨k - (ordN W + 1), by omega⟩
  have hr := refTake_l0 l (N : Int) W hW1 hW2 (g : Int) k' (ordN W) 0 (by omega)
  rw [← hk'] at hr
  obtain ⟨res, h7, h8, h9⟩ := took_l l hl hm N (by omega) W g hW1 (ordN W + 1) (by omega) k' (by omega)
  obtain ⟨res', h7', h8', h9'⟩ := took_l l hl hm N (by omega) W g hW1 (ordN W + 1) (by omega) k (by omega)
  have e1 : ((ordN W + 1 : Nat) : Int) - 1 = ((ordN W : Nat) : Int) := by omega
  rw [e1] at h7 h8 h7' h8'
  have hmono : ∀ d, undercroftref08_Take.l1 (k' + d) l (N : Int) (W : Int) (g : Int) ((ordN W : Nat) : Int) = some res := by
    intro d
    induction d with
    | zero => exact h8
    | succ d ih => exact (undercroftref08_Take.mono_l (k' + d)).2.2 _ _ _ _ _ _ ih
  have hsame : res' = res := by
    have := hmono (ordN W + 1)
    rw [show k' + (ordN W + 1) = k from by omega, h8'] at this
    exact Option.some.inj this
  subst hsame
  rw [len_f W hW1 hW2, Option.bind_some, mn_nat, h7']
  refine ⟨res', rfl, ?_, .inr ⟨⟨by omega, by omega, by omega, by omega, by omega⟩, by rw [Int.toNat_natCast, Int.toNat_natCast]; exact h9⟩⟩
  exact hr.trans h8
end Go.Proofs.Ytlhpejdbmbpmhaa.Pure
