/- BuddyAll: as long as a block is free one is given, and when all is given back all is free, at any size and wishes; no condition. -/
import Derived.Test.YtlhpejdbmbpmhaaUx24
import Derived.Test.YtlhpejdbmbpmhaaPBuddy4
namespace Go.Proofs.Ytlhpejdbmbpmhaa.Pure
open Go Go.RowKit Go.Proofs.Ytlhpejdbmbpmhaa.U Go.Proofs.YtlhpejdbmbpmhaaW.PrintWords Go.Proofs.YtlhpejdbmbpmhaaW.PrintLast Go.Proofs.YtlhpejdbmbpmhaaW.PrintMore
set_option linter.unusedVariables false
set_option linter.unusedSimpArgs false
open X (cntP firP)
/-- Block i lies in the span. -/
def InS (g : S27) (i : Nat) : Prop := g.f0 ≤ (i : Int) ∧ (i : Int) < g.f0 + g.f1
/-- The map holds just the blocks of the spans, which lie apart. -/
structure Owns (m : List Int) (n : Nat) (gs : List S27) : Prop where
  u8 : X.u8all m = true
  len : n < 8 * m.length
  small : m.length ≤ 40
  ok : ∀ g ∈ gs, 0 ≤ g.f0 ∧ 1 ≤ g.f1 ∧ g.f0 + g.f1 ≤ n
  apart : gs.Pairwise fun g h => ∀ i, InS g i → ¬ InS h i
  bits : ∀ i, i < n → (bitN m i = true ↔ ∃ g ∈ gs, InS g i)
theorem Owns.take {m : List Int} {n : Nat} {gs : List S27} (h : Owns m n gs) {c p : Nat} {r : List Int} (hp : 1 ≤ p) (hcp : c + p ≤ n) (h0 : ∀ i, c ≤ i → i < c + p → bitN m i = false) (hf : IsFill m c (c + p) true r) : Owns r n (gs ++ [⟨(c : Int), (p : Int)⟩]) := by
  have hin : ∀ i, InS ⟨(c : Int), (p : Int)⟩ i ↔ c ≤ i ∧ i < c + p := fun i => by unfold InS; dsimp only; omega
  refine ⟨hf.u8, by rw [hf.len]; exact h.len, by rw [hf.len]; exact h.small, ?_, ?_, ?_⟩
  · intro g hg
    rcases List.mem_append.1 hg with hg | hg
    · exact h.ok g hg
    · rw [List.mem_singleton.1 hg]
      dsimp only
      omega
  · rw [List.pairwise_append]
    refine ⟨h.apart, List.pairwise_singleton _ _, ?_⟩
    intro a ha b hb i hi hi'
    rw [List.mem_singleton.1 hb, hin] at hi'
    have := (h.bits i (by omega)).2 ⟨a, ha, hi⟩
    rw [h0 i hi'.1 hi'.2] at this
    cases this
  · intro i hi
    have := h.len
    rw [hf.bits i (by omega)]
    by_cases hc : c ≤ i ∧ i < c + p
    · rw [if_pos hc]
      exact ⟨fun _ => ⟨_, List.mem_append_right _ (List.mem_singleton.2 rfl), (hin i).2 hc⟩, fun _ => rfl⟩
    · rw [if_neg hc, h.bits i hi]
      constructor
      · rintro ⟨g, hg, hi'⟩
        exact ⟨g, List.mem_append_left _ hg, hi'⟩
      · rintro ⟨g, hg, hi'⟩
        rcases List.mem_append.1 hg with hg | hg
        · exact ⟨g, hg, hi'⟩
        · rw [List.mem_singleton.1 hg, hin] at hi'
          exact absurd hi' hc
theorem Owns.give {m : List Int} {n : Nat} {g : S27} {gs : List S27} (h : Owns m n (g :: gs)) (k : Nat) (hk : 400 < k) : ∃ r, buddy_Give.f k m (n : Int) g.f0 g.f1 = some (r, 0) ∧ Owns r n gs := by
  obtain ⟨z1, z2, z3⟩ := h.ok g List.mem_cons_self
  have hl := h.len
  have hs := h.small
  obtain ⟨c, hc⟩ : ∃ c : Nat, g.f0 = (c : Int) := ⟨g.f0.toNat, by omega⟩
  obtain ⟨p, hp⟩ : ∃ p : Nat, g.f1 = (p : Int) := ⟨g.f1.toNat, by omega⟩
  rw [hc] at z1 z3
  rw [hp] at z2 z3
  have hin : ∀ i, InS g i ↔ c ≤ i ∧ i < c + p := fun i => by unfold InS; rw [hc, hp]; omega
  obtain ⟨res, h1, _, h2⟩ := give_both m h.u8 (by omega) (n : Int) (c : Int) (p : Int) ⟨by omega, by omega⟩ ⟨by omega, by omega⟩ k (by omega)
  have ok : GiveOk m (n : Int) (c : Int) (p : Int) := ⟨by omega, by omega, by omega, by omega, by omega⟩
  rcases h2 with ⟨h2, _⟩ | ⟨_, h2⟩
  · exact absurd ok h2
  rw [Int.toNat_natCast, Int.toNat_natCast] at h2
  have hall : ∀ i, c ≤ i → i < c + p → bitN m i = true := fun i h3 h4 => (h.bits i (by omega)).2 ⟨g, List.mem_cons_self, (hin i).2 ⟨h3, h4⟩⟩
  rcases h2 with ⟨h2, _⟩ | ⟨_, r, hf, rfl⟩
  · exact absurd hall h2
  rw [hc, hp]
  refine ⟨r, h1, hf.u8, by rw [hf.len]; exact hl, by rw [hf.len]; exact hs, fun x hx => h.ok x (List.mem_cons_of_mem _ hx), (List.pairwise_cons.1 h.apart).2, fun i hi => ?_⟩
  rw [hf.bits i (by omega)]
  have hap := (List.pairwise_cons.1 h.apart).1
  by_cases hi' : c ≤ i ∧ i < c + p
  · rw [if_pos hi']
    constructor
    · intro h; cases h
    · rintro ⟨x, hx, hxi⟩
      exact absurd hxi (hap x hx i ((hin i).2 hi'))
  · rw [if_neg hi', h.bits i hi]
    constructor
    · rintro ⟨x, hx, hxi⟩
      rcases List.mem_cons.1 hx with rfl | hx
      · exact absurd ((hin i).1 hxi) hi'
      · exact ⟨x, hx, hxi⟩
    · rintro ⟨x, hx, hxi⟩
      exact ⟨x, List.mem_cons_of_mem _ hx, hxi⟩
theorem Owns.none_ {m : List Int} {n : Nat} (h : Owns m n []) : cntP (bitN m) 0 n = 0 := X.cntP_zero.2 (fun i _ hi => by
  cases hb : bitN m i
  · rfl
  · obtain ⟨g, hg, _⟩ := (h.bits i (by omega)).1 hb
    cases hg)
theorem all_l1 (n : Nat) (gs : List S27) (hg : gs.length ≤ 60) (d : Nat) : ∀ (k i : Nat) (m : List Int), i + d = gs.length → Owns m n (gs.drop i) → 500 + d < k → undercroftlaw08_BuddyAll.l1 k (n : Int) m gs (i : Int) = some true := by
  induction d with
  | zero =>
    intro k i m hd ho hk
    have hl := ho.len
    have hs := ho.small
    obtain ⟨k, rfl⟩ : ∃ m, k = m + 1 := ⟨k - 1, by omega⟩
    have hf := (free_f m ho.u8 (by omega) (n : Int) k (by omega)).1
    rw [freeI_in (by omega)] at hf
    rw [List.drop_eq_nil_of_le (by omega)] at ho
    rw [undercroftlaw08_BuddyAll.l1, if_neg (by omega), hf, Option.bind_some, if_pos rfl, ho.none_]
    simp
  | succ d ih =>
    intro k i m hd ho hk
    obtain ⟨k, rfl⟩ : ∃ m, k = m + 1 := ⟨k - 1, by omega⟩
    have hi : i < gs.length := by omega
    have h1 : (i : Int) < (gs.length : Int) := by omega
    rw [List.drop_eq_getElem_cons hi] at ho
    have hrd : rd_T27 gs (i : Int) = gs[i] := by
      unfold rd_T27
      rw [Int.toNat_natCast, List.getD_eq_getElem?_getD, List.getElem?_eq_getElem hi]
      rfl
    obtain ⟨r, h2, h3⟩ := ho.give k (by omega)
    have nxt := ih k (i + 1) r (by omega) h3 (by omega)
    have w1 : wrap64 ((i : Int) + 1) = ((i + 1 : Nat) : Int) := wrap_sum (b := 1) (by omega)
    rw [undercroftlaw08_BuddyAll.l1, if_pos h1, if_pos (Int.natCast_nonneg i), hrd, h2, Option.bind_some, if_pos rfl, w1]
    exact nxt
theorem all_j2 (n : Nat) (gs : List S27) (hg : gs.length ≤ 60) (m : List Int) (ho : Owns m n gs) (k : Nat) (hk : 600 < k) : undercroftlaw08_BuddyAll.j2 k (n : Int) m gs ((n - cntP (bitN m) 0 n : Nat) : Int) = some true := by
  have hl := ho.len
  have hs := ho.small
  obtain ⟨k, rfl⟩ : ∃ m, k = m + 1 + 1 := ⟨k - 2, by omega⟩
  have hf := (free_f m ho.u8 (by omega) (n : Int) (k + 1) (by omega)).1
  rw [freeI_in (by omega)] at hf
  rw [undercroftlaw08_BuddyAll.j2, hf, Option.bind_some, if_pos rfl, if_pos rfl, decide_eq_false (by omega), undercroftlaw08_BuddyAll.j3, if_neg (by decide)]
  exact all_l1 n gs hg gs.length k 0 m (by omega) ho (by omega)
theorem bits_in (m r : List Int) (n c p : Nat) (hn : n < 8 * m.length) (hcp : c + p ≤ n) (h0 : ∀ i, c ≤ i → i < c + p → bitN m i = false) (hf : IsFill m c (c + p) true r) : cntP (bitN r) 0 n = cntP (bitN m) 0 n + p := by
  have cut : ∀ q : Nat → Bool, cntP q 0 n = cntP q 0 c + cntP q c p + cntP q (c + p) (n - (c + p)) := by
    intro q
    have e1 := X.cntP_add q 0 (c + p) (n - (c + p))
    have e2 := X.cntP_add q 0 c p
    rw [show c + p + (n - (c + p)) = n from by omega, Nat.zero_add] at e1
    rw [Nat.zero_add] at e2
    omega
  have e1 : cntP (bitN m) c p = 0 := X.cntP_zero.2 h0
  have e2 : cntP (bitN r) c p = p := X.cntP_all.2 (fun i h2 h3 => by rw [hf.bits i (by omega), if_pos ⟨h2, h3⟩])
  have e3 : cntP (bitN r) 0 c = cntP (bitN m) 0 c := X.cntP_congr (fun i _ h3 => by rw [hf.bits i (by omega), if_neg (by omega)])
  have e4 : cntP (bitN r) (c + p) (n - (c + p)) = cntP (bitN m) (c + p) (n - (c + p)) := X.cntP_congr (fun i h2 h3 => by rw [hf.bits i (by omega), if_neg (by omega)])
  rw [cut, cut (bitN m), e1, e2, e3, e4]
  omega
theorem all_l0 (ws : List Int) (hw : X.u8all ws = true) (hwl : ws.length ≤ 140737488351232) (n : Nat) (d : Nat) : ∀ (k i : Nat) (m : List Int) (gs : List S27), i + d = 60 → gs.length = i → Owns m n gs → 1500 + 2 * d < k →
    undercroftlaw08_BuddyAll.l0 k ws (n : Int) m gs ((n - cntP (bitN m) 0 n : Nat) : Int) (i : Int) = some true := by
  have stop : ∀ (k i : Nat) (m : List Int) (gs : List S27), gs.length ≤ 60 → Owns m n gs → 700 < k → undercroftlaw08_BuddyAll.j1 k ws (n : Int) m gs ((n - cntP (bitN m) 0 n : Nat) : Int) (i : Int) false = some true := by
    intro k i m gs hg ho hk
    obtain ⟨k, rfl⟩ : ∃ m, k = m + 1 := ⟨k - 1, by omega⟩
    rw [undercroftlaw08_BuddyAll.j1, if_neg (by decide)]
    exact all_j2 n gs hg m ho k (by omega)
  induction d with
  | zero =>
    intro k i m gs hd hg ho hk
    obtain ⟨k, rfl⟩ : ∃ m, k = m + 1 := ⟨k - 1, by omega⟩
    have hst := stop k i m gs (by omega) ho (by omega)
    rw [undercroftlaw08_BuddyAll.l0, decide_eq_false (by omega)]
    split <;> exact hst
  | succ d ih =>
    intro k i m gs hd hg ho hk
    have hl := ho.len
    have hs := ho.small
    obtain ⟨k, rfl⟩ : ∃ m, k = m + 1 + 1 := ⟨k - 2, by omega⟩
    have hst := stop (k + 1) i m gs (by omega) ho (by omega)
    rw [undercroftlaw08_BuddyAll.l0, decide_eq_true (by omega)]
    by_cases hi : (i : Int) < (ws.length : Int)
    rotate_left
    · rw [if_neg hi]
      exact hst
    rw [if_pos hi]
    clear hst
    obtain ⟨v, hv, hv2⟩ := byteN hw i
    have hrd : rd ws (i : Int) = (v : Int) := by unfold rd; rw [Int.toNat_natCast]; exact hv
    have hand : Go.bits .and .u8 (v : Int) 63 = ((v &&& 63 : Nat) : Int) := and_u8N v 63 hv2 (by decide)
    have hlt : v &&& 63 ≤ 63 := Nat.and_le_right
    obtain ⟨u, hu⟩ : ∃ u, u = v &&& 63 := ⟨_, rfl⟩
    rw [← hu] at hand hlt
    obtain ⟨res, h4, _, h5⟩ := take_both m ho.u8 (by omega) (n : Int) ((1 + u : Nat) : Int) (v : Int) k (by omega)
    have ok : TakeOk m (n : Int) ((1 + u : Nat) : Int) (v : Int) := ⟨by omega, by omega, by omega, by omega, by omega⟩
    rcases h5 with ⟨h5, _⟩ | ⟨_, h5⟩
    · exact absurd ok h5
    rw [Int.toNat_natCast, Int.toNat_natCast] at h5
    have hi0 : (0 : Int) ≤ (i : Int) := Int.natCast_nonneg i
    have hgl : gs.length < 8796093022208 := by omega
    have hi1 : i + 1 ≤ 9223372036854775807 := by omega
    have hle := X.cntP_le (bitN m) 0 n
    have hend := fun x => all_j2 n gs (by omega) m ho k x
    have hk6 : 600 < k := by omega
    rcases h5 with ⟨rfl, hno⟩ | ⟨o, c, s, q1, q2, q3, q4, q5, rfl⟩
    · have hfull : cntP (bitN m) 0 n = n := X.cntP_all.2 (fun i _ h => by
        have h7 := hno 0 (Nat.succ_pos _) i (Nat.mod_one _)
        cases hb : bitN m i
        · have : freeB m n i 0 = true := freeB_iff.2 ⟨by rw [Nat.pow_zero]; omega, fun j h8 h9 => by rw [Nat.pow_zero] at h9; rw [show j = i from by omega]; exact hb⟩
          rw [this] at h7
          cases h7
        · rfl)
      have hend := hend hk6
      rw [hfull, Nat.sub_self] at hend ⊢
      have w0 : wrap64 (u : Int) = (u : Int) := wrap_id (by omega) (by omega)
      have w3 : wrap64 (1 + (u : Int)) = ((1 + u : Nat) : Int) := by clear w0; exact wrap_sum (a := 1) (by omega)
      have w4 : wrap64 (v : Int) = (v : Int) := by clear w0 w3; exact wrap_id (by omega) (by omega)
      rw [undercroftlaw08_BuddyAll.j1, if_pos rfl, if_pos hi0, if_pos hi, hrd, hand, w0, w3, w4, h4, Option.bind_some, if_neg (by decide), if_pos (show ((0 : Nat) : Int) = 0 from rfl)]
      exact hend
    · obtain ⟨f1, f2⟩ := freeB_iff.1 q3
      have hpo : 1 ≤ 2 ^ o := Nat.one_le_two_pow
      obtain ⟨M, hM⟩ : ∃ M, M = min (1 + u) (2 ^ o) := ⟨_, rfl⟩
      have hM1 : 1 ≤ M := by omega
      have hM3 : M ≤ 2 ^ o := by omega
      rw [← hM] at q5 h4
      clear hM
      have hcm : c + M ≤ n := by omega
      have h0 : ∀ i, c ≤ i → i < c + M → bitN m i = false := fun i h7 h8 => f2 i h7 (by omega)
      have hnew := ho.take hM1 hcm h0 q5
      have hcnt := bits_in m s n c M hl hcm h0 q5
      have hle2 := X.cntP_le (bitN s) 0 n
      have nxt := ih k (i + 1) s _ (by omega) (by rw [List.length_append, hg]; rfl) hnew (by omega)
      have e5 : wrap64 (((n - cntP (bitN m) 0 n : Nat) : Int) - (M : Int)) = ((n - cntP (bitN s) 0 n : Nat) : Int) := by
        rw [wrap_id (by omega) (by omega)]
        omega
      have w0 : wrap64 (u : Int) = (u : Int) := by clear e5; exact wrap_id (by omega) (by omega)
      have w3 : wrap64 (1 + (u : Int)) = ((1 + u : Nat) : Int) := by clear w0 e5; exact wrap_sum (a := 1) (by omega)
      have w4 : wrap64 (v : Int) = (v : Int) := by clear w0 w3 e5; exact wrap_id (by omega) (by omega)
      have w1 : wrap64 ((i : Int) + 1) = ((i + 1 : Nat) : Int) := wrap_sum (b := 1) hi1
      rw [undercroftlaw08_BuddyAll.j1, if_pos rfl, if_pos hi0, if_pos hi, hrd, hand, w0, w3, w4, h4, Option.bind_some, if_pos rfl, if_pos hgl, w1]
      dsimp only
      rw [e5]
      exact nxt
theorem zeroN (q : Nat) (i : Nat) : bitN (List.replicate q 0) i = false := by
  unfold bitN
  have : (List.replicate q (0 : Int)).getD (i / 8) 0 = 0 := by
    rw [List.getD_eq_getElem?_getD, List.getElem?_replicate]
    split <;> rfl
  rw [this]
  exact Nat.zero_testBit _
theorem BuddyAll : undercroftlaw08_BuddyAll.Pure := by
  intro a ws h1 hmax hsz hwf
  have hw := X.u8all_wf hwf
  have hm : ws.length ≤ 140737488351232 := by omega
  have ha : 0 ≤ a ∧ a < 256 := by
    simp [Lit.wf, IntKind.max, IntKind.min, IntKind.bits, IntKind.signed] at h1
    omega
  obtain ⟨n, rfl⟩ : ∃ n : Nat, a = (n : Int) := ⟨a.toNat, by omega⟩
  have hn : n < 256 := by omega
  refine ⟨2000, ?_⟩
  unfold undercroftlaw08_BuddyAll.f
  have hdv : Int.tdiv (n : Int) 8 = ((n / 8 : Nat) : Int) := rfl
  have w1 : wrap64 (n : Int) = (n : Int) := wrap_id (by omega) (by omega)
  have w2 : wrap64 ((n / 8 : Nat) : Int) = ((n / 8 : Nat) : Int) := by clear w1; exact wrap_id (by omega) (by omega)
  have w3 : wrap64 (((n / 8 : Nat) : Int) + 1) = ((n / 8 + 1 : Nat) : Int) := by clear w1 w2; exact wrap_sum (b := 1) (by omega)
  rw [alive_true _ (by decide), Option.bind_some, if_pos rfl, w1, hdv, w2, w3, if_pos (Int.natCast_nonneg _), Int.toNat_natCast]
  clear w1 w2 w3
  rw [if_pos (by omega)]
  have hc : cntP (bitN (List.replicate (n / 8 + 1) 0)) 0 n = 0 := X.cntP_zero.2 (fun i _ _ => zeroN _ i)
  have ho : Owns (List.replicate (n / 8 + 1) 0) n [] := ⟨X.u8all_iff.2 (fun c hc => by rw [List.eq_of_mem_replicate hc]; decide), by rw [List.length_replicate]; omega, by rw [List.length_replicate]; omega, fun g hg => (by cases hg), List.Pairwise.nil, fun i _ => ⟨fun h => (by rw [zeroN] at h; cases h), fun h => by obtain ⟨g, hg, _⟩ := h; cases hg⟩⟩
  have := all_l0 ws hw hm n 60 2000 0 _ [] (by decide) rfl ho (by decide)
  rw [hc, Nat.sub_zero] at this
  exact this
end Go.Proofs.Ytlhpejdbmbpmhaa.Pure
