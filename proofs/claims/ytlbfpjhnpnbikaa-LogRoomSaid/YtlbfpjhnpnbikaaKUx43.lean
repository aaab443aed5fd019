/- Ux43: what this claim uses. Laid by slim.py (ours). -/
import Derived.Test.YtlbfpjhnpnbikaaKPLog
import Derived.Test.YtlbfpjhnpnbikaaKUx50
import Derived.Test.YtlbfpjhnpnbikaaKUx1
import Derived.Test.YtlbfpjhnpnbikaaKUx10
import Derived.Test.YtlbfpjhnpnbikaaKUx11
import Derived.Test.YtlbfpjhnpnbikaaKUx20
namespace Go.Proofs.Ytlbfpjhnpnbikaa.U
open Go.RowKit Go.Proofs.YtlbfpjhnpnbikaaW.PrintWords Go.Proofs.YtlbfpjhnpnbikaaW.PrintLast Go.Proofs.YtlbfpjhnpnbikaaW.PrintMore
attribute [local go_sem] max2_int min2_int max_two min_two max_three min_three max_four min_four
set_option linter.unusedVariables false
set_option linter.unusedSimpArgs false
def imap (b : Nat) (f : Int → Option Value) : X.Res := ⟨fun w O _ => X.IMap Try.prog 3 w b f ∧ O b, fun {w w' O S} h hm _ => ⟨h.1.move (hm b (.inl h.2)), h.2⟩⟩
section
variable {w0 w : World} {L : List X.Res} {b : Nat} {f : Int → Option Value}
theorem imap_new (h : X.Lies w0 w L) : X.Lies w0 (w.alloc (.map #[] 0)) (imap w.heap.size (fun _ => none) :: L) :=
  h.new (O := fun k => k = w.heap.size) (S := fun _ => False) ((Below.refl _ _).alloc (Nat.le_refl _) _) ⟨X.IMap.made w, rfl⟩ (fun k hk => by subst hk; exact ⟨Nat.le_refl _, by simp⟩) (fun _ h => h.elim) (fun _ _ h => h)
theorem imap_at (h : X.Lies w0 w L) (i : Nat) (hi : L[i]? = some (imap b f)) : X.IMap Try.prog 3 w b f := by
  obtain ⟨O, S, hb, -⟩ := h.at i hi
  exact hb
theorem imap_store (h : X.Lies w0 w (imap b f :: L)) {i : Int} (hi : 0 ≤ i ∧ i < 1024) (hd : ∀ j v, f j = some v → 0 ≤ j ∧ j < 1024) (v : Value) :
    ∃ w', (Instr.mapUpdate 80 (.map (some b)) (.int .i64 i) v).run Try.prog w = .ok () w' ∧ X.Lies w0 w' (imap b (fun j => if j = i then some v else f j) :: L) := by
  obtain ⟨O, S, ⟨hb, hO⟩, h2, h3, h4, h5⟩ := h.step
  obtain ⟨w', hrun, hm, hg⟩ := hb.store Try.underlying3 Try.underlying80 hi hd v
  exact ⟨w', hrun, h5 (R' := imap b _) ((X.Turn.grown hg).mono (fun k hk => by have e : some k = some b := hk; injection e with e; rw [e]; exact hO)) ⟨hm, hO⟩ (fun k hk => .inl hk) (fun k hk => .inl hk) h4⟩
theorem hzeroInt (w : World) : (zeroValue 3).run Try.prog w = .ok (.int .i64 0) w := by kernel_rfl
theorem imap_look (h : X.Lies w0 w L) (k : Nat) (hk : L[k]? = some (imap b f)) {i : Int} (hi : 0 ≤ i ∧ i < 1024) : (Instr.lookup 80 (.map (some b)) (.int .i64 i) true).run Try.prog w = .ok (.tuple #[(f i).getD (.int .i64 0), .bool (f i).isSome]) w :=
  (imap_at h k hk).look Try.underlying3 Try.underlying80 (hzeroInt w) (by simp [Lit.wf, IntKind.min, IntKind.max, IntKind.bits, IntKind.signed]; omega)
end
def revL (l : List Pure.Tx) : Nat → Int → Option Nat
  | 0, _ => none
  | i + 1, b => match l[i]? with
    | some t => if b ∈ t.f2 then some i else revL l i b
    | none => revL l i b
def revIn (l : List Pure.Tx) (i : Nat) (rs : List Int) (k : Nat) (b : Int) : Option Nat := if b ∈ rs.take k then some i else revL l i b
theorem revIn_zero (l : List Pure.Tx) (i : Nat) (rs : List Int) (b : Int) : revIn l i rs 0 b = revL l i b := by
  unfold revIn
  rw [List.take_zero, if_neg (by simp)]
theorem revIn_next {l : List Pure.Tx} {i : Nat} {rs : List Int} {k : Nat} {x : Int} (hx : rs[k]? = some x) (b : Int) : revIn l i rs (k + 1) b = if b = x then some i else revIn l i rs k b := by
  unfold revIn
  rw [List.take_add_one, hx, Option.toList_some]
  by_cases hb : b = x
  · rw [if_pos hb, if_pos (by rw [hb]; simp)]
  · rw [if_neg hb]
    by_cases h2 : b ∈ rs.take k
    · rw [if_pos h2, if_pos (List.mem_append_left _ h2)]
    · rw [if_neg h2, if_neg (by simp [h2, hb])]
theorem revIn_whole {l : List Pure.Tx} {i : Nat} {t : Pure.Tx} (ht : l[i]? = some t) (b : Int) : revIn l i t.f2 t.f2.length b = revL l (i + 1) b := by
  unfold revIn
  rw [List.take_length]
  simp only [revL, ht]
theorem revL_some {l : List Pure.Tx} {b : Int} : ∀ {N m : Nat}, revL l N b = some m → m < N ∧ ∃ t, l[m]? = some t ∧ b ∈ t.f2
  | 0, m, h => by cases h
  | N + 1, m, h => by
    rw [revL] at h
    split at h
    · rename_i t ht
      by_cases hb : b ∈ t.f2
      · rw [if_pos hb] at h
        obtain rfl := Option.some.inj h
        exact ⟨by omega, t, ht, hb⟩
      · rw [if_neg hb] at h
        have := revL_some h
        exact ⟨by omega, this.2⟩
    · have := revL_some h
      exact ⟨by omega, this.2⟩
theorem revL_max {l : List Pure.Tx} {b : Int} : ∀ {N j : Nat} {t : Pure.Tx}, j < N → l[j]? = some t → b ∈ t.f2 → ∃ m, revL l N b = some m ∧ j ≤ m
  | 0, j, t, hj, ht, hb => by omega
  | N + 1, j, t, hj, ht, hb => by
    rw [revL]
    by_cases hjN : j = N
    · subst hjN
      simp only [ht, if_pos hb]
      exact ⟨j, rfl, Nat.le_refl _⟩
    · obtain ⟨m, h1, h2⟩ := revL_max (N := N) (by omega) ht hb
      split
      · rename_i t2 ht2
        by_cases hb2 : b ∈ t2.f2
        · rw [if_pos hb2]
          exact ⟨N, rfl, by omega⟩
        · rw [if_neg hb2]
          exact ⟨m, h1, h2⟩
      · exact ⟨m, h1, h2⟩
theorem revB_iff (l : List Pure.Tx) (i : Nat) (b : Int) : Pure.revB l i b = true ↔ ∃ j t, i < j ∧ l[j]? = some t ∧ b ∈ t.f2 := by
  unfold Pure.revB
  rw [List.any_eq_true]
  constructor
  · rintro ⟨t, ht, hb⟩
    obtain ⟨k, hk⟩ := List.mem_iff_getElem?.1 ht
    rw [List.getElem?_drop] at hk
    exact ⟨i + 1 + k, t, by omega, hk, by simpa using hb⟩
  · rintro ⟨j, t, hj, ht, hb⟩
    refine ⟨t, List.mem_iff_getElem?.2 ⟨j - (i + 1), ?_⟩, by simpa using hb⟩
    rw [List.getElem?_drop, ← ht]
    congr 1
    omega
theorem rev_same (l : List Pure.Tx) (i : Nat) (b : Int) : Pure.revB l i b = (match revL l l.length b with
    | none => false
    | some m => decide (i < m)) := by
  rw [Bool.eq_iff_iff, revB_iff]
  constructor
  · rintro ⟨j, t, hj, ht, hb⟩
    obtain ⟨m, h1, h2⟩ := revL_max (List.getElem?_eq_some_iff.1 ht).1 ht hb
    simp only [h1]
    exact decide_eq_true (by omega)
  · intro h
    cases hr : revL l l.length b with
    | none => rw [hr] at h; cases h
    | some m =>
      simp only [hr] at h
      obtain ⟨-, t, ht, hb⟩ := revL_some hr
      exact ⟨m, t, of_decide_eq_true h, ht, hb⟩
theorem wrTo_pend (l : List Pure.Tx) (i : Nat) (ws : List S66) (d : X.DS) : ∀ k, (Pure.wrTo l i ws d k).pend.length ≤ d.pend.length + k
  | 0 => Nat.le_refl _
  | k + 1 => by
    have ih := wrTo_pend l i ws d k
    rw [Pure.wrTo]
    split
    · rename_i x hx
      split
      · omega
      · have := X.DS.write_pend (Pure.wrTo l i ws d k) x.f0.toNat x.f1
        omega
    · omega
theorem apTo_pend (l : List Pure.Tx) (d : X.DS) (hl : ∀ t ∈ l, t.f1.length ≤ 58) : ∀ i, (Pure.apTo l d i).pend.length ≤ d.pend.length + 58 * i
  | 0 => Nat.le_refl _
  | i + 1 => by
    have ih := apTo_pend l d hl i
    rw [Pure.apTo]
    split
    · rename_i t ht
      have h1 := wrTo_pend l i t.f1 (Pure.apTo l d i) t.f1.length
      have h2 := hl t (List.mem_of_getElem? ht)
      omega
    · omega
theorem row_spot {w : World} {A : Option Addr} {n : Nat} {xs : List Int} (h : (Kd.int .u8).C w A n xs) : ∀ ad, A = some ad → 0 < xs.length → ∃ g o, ad = ⟨g, o, none⟩ := by
  intro ad e h0
  obtain ⟨x, hx⟩ : ∃ x, xs[0]? = some x := ⟨_, List.getElem?_eq_getElem h0⟩
  obtain ⟨g, o, e2, -⟩ := Pure.int_at h hx
  rw [e2] at e
  exact ⟨g, o, (Option.some.inj e).symm⟩
theorem ft_in {P : World → Prop} {w : World} {S : Nat → Prop} {g : Nat} (h : X.Ft P w S) (hP : ∀ w', P w' → ∃ o v, w'.cell? ⟨g, o, none⟩ = some v) : S g := by
  refine Classical.byContradiction (fun hn => ?_)
  obtain ⟨o1, v1, hv1⟩ := hP w h.now
  have hlt := World.block_lt_of_cell? _ _ hv1
  obtain ⟨o, v, hv⟩ := hP _ (h { w with heap := w.heap.setIfInBounds g (.cells #[] 0) } (fun k hk => by
    have : k ≠ g := fun e => hn (e ▸ hk)
    simp [Ne.symm this]) (by simp))
  have h7 : World.cell? { w with heap := w.heap.setIfInBounds g (.cells #[] 0) } ⟨g, o, none⟩ = none := by
    simp [World.cell?, hlt]
  rw [h7] at hv
  cases hv
theorem cell_same {w w' : World} {g : Nat} (h : w'.heap[g]? = w.heap[g]?) (o : Nat) : w'.cell? ⟨g, o, none⟩ = w.cell? ⟨g, o, none⟩ := by
  simp only [World.cell?, h]
theorem ft_wr {w : World} {S : Nat → Prop} {ws : List S66} {ga oa n k cx : Nat} {x : S66} {Ax : Option Addr} (h : X.Ft (fun w' => Kd.C k66 w' (some ⟨ga, oa, none⟩) n ws) w S) (hx : ws[k]? = some x) (hrg : w.rangeAt ga (oa + k * 2) [.int .i64 x.f0, .slice Ax x.f1.length cx]) : X.Ft (fun w' => (Kd.int .u8).C w' Ax x.f1.length x.f1) w S := by
  have hg : S ga := ft_in h (fun w' hC => by
    obtain ⟨g2, o2, A4, c4, e, hr, -, -⟩ := Pure.wr_at hC hx
    cases e
    exact ⟨_, _, hr 0 _ rfl⟩)
  intro w' h1 h2
  obtain ⟨g2, o2, A4, c4, e, hr, -, hC⟩ := Pure.wr_at (h w' h1 h2) hx
  cases e
  have e1 := hr 1 _ rfl
  have e2 := hrg 1 _ rfl
  rw [cell_same (h1 ga hg), e2] at e1
  injection e1 with e1
  injection e1 with e1
  rw [e1]
  exact hC
theorem Lies_also {w0 w : World} {L : List X.Res} {P Q : World → Prop} (h : X.Lies w0 w (.ft P :: L)) (hQ : ∀ S, X.Ft P w S → X.Ft Q w S) : X.Lies w0 w (.ft Q :: .ft P :: L) := by
  obtain ⟨hb, O, S, h1, h2, h3, h4, h5⟩ := h
  have hP : X.Ft P w (S 0) := h1 0 _ rfl
  refine ⟨hb, fun i k => match i with | 0 => False | i + 1 => O i k, fun i k => match i with | 0 => S 0 k | i + 1 => S i k, ?_, ?_, ?_, ?_, ?_⟩
  · intro i R2 hR2
    cases i with
    | zero => simp only [List.getElem?_cons_zero, Option.some.injEq] at hR2; subst hR2; exact hQ _ hP
    | succ i => exact h1 i R2 (by simpa using hR2)
  · intro i k hk
    cases i with
    | zero => exact hk.elim
    | succ i => exact h2 _ k hk
  · intro i k hk
    cases i with
    | zero => exact h3 0 k hk
    | succ i => exact h3 _ k hk
  · intro i j k hi hj
    cases i with
    | zero => exact hi.elim
    | succ i =>
      cases j with
      | zero => exact hj.elim
      | succ j => exact congrArg _ (h4 _ _ k hi hj)
  · intro i j k hi hj
    cases i with
    | zero => exact hi.elim
    | succ i =>
      cases j with
      | zero => exact h5 _ _ k hi hj
      | succ j => exact h5 _ _ k hi hj
theorem kTx_of {w : World} {x : Pure.Tx} {A1 A2 : Option Addr} {n1 c1 n2 c2 : Nat} {sq : Int} (h : k60.K w x [.int .u64 sq, .slice A1 n1 c1, .slice A2 n2 c2]) : (x.f1.length ≤ c1 ∧ Kd.C k66 w A1 x.f1.length x.f1) ∧ x.f2.length ≤ c2 ∧ Kd.C (Kd.int .i64) w A2 x.f2.length x.f2 := by
  obtain ⟨B1, d1, B2, d2, e, h1, h2, h3, h4⟩ := Pure.kTx_K h
  simp only [List.cons.injEq, Value.slice.injEq, and_true] at e
  obtain ⟨-, ⟨rfl, -, rfl⟩, rfl, -, rfl⟩ := e
  exact ⟨⟨h1, h2⟩, h3, h4⟩
theorem ok_out {n : Nat} {ls : Pure.LS} (hok : ls.Ok n) {t : Pure.Tx} (ht : t ∈ ls.live) : (∀ x ∈ t.f1, Pure.outB n ls.st ls.len x.f0 = true) ∧ ∀ b ∈ t.f2, Pure.outB n ls.st ls.len b = true := by
  obtain ⟨-, -, h⟩ := hok.live t ht
  unfold Pure.fairB at h
  rw [Bool.and_eq_true, List.all_eq_true, List.all_eq_true] at h
  exact h
theorem out_hasB {n st len : Nat} {b : Int} (h : Pure.outB n st len b = true) : hasB b n = true := by
  have := of_decide_eq_true h
  exact decide_eq_true ⟨this.1, this.2.1⟩
theorem out_range {n st len : Nat} {b : Int} (hn : n ≤ 1024) (h : Pure.outB n st len b = true) : 0 ≤ b ∧ b < 1024 := by
  have := of_decide_eq_true h
  omega
theorem rev_range {n : Nat} {ls : Pure.LS} (hok : ls.Ok n) {t : Pure.Tx} {i k m : Nat} {j : Int} (ht : ls.live[i]? = some t) (h : revIn ls.live i t.f2 k j = some m) : 0 ≤ j ∧ j < 1024 := by
  unfold revIn at h
  by_cases hj : j ∈ t.f2.take k
  · exact out_range hok.n1 ((ok_out hok (List.mem_of_getElem? ht)).2 j (List.mem_of_mem_take hj))
  · rw [if_neg hj] at h
    obtain ⟨-, t2, ht2, hb⟩ := revL_some h
    exact out_range hok.n1 ((ok_out hok (List.mem_of_getElem? ht2)).2 j hb)
theorem home_head (w0 w : World) (L : List X.Res) (p n : Nat) (s : X.DS) (at_ : Nat) (seq : Int) (pl : Nat) (B : Option Addr) (d : Nat) (h : X.Lies w0 w (.disk p n s :: .row (Kd.int .u8) 5 (.slice B 256 d) (hdB seq pl) :: L)) (hat : at_ < n) (hpl : s.pend.length ≤ 500000000000) :
    Calls Try.prog 13 #[.pointer (some ⟨p, 0, none⟩), .int .i64 (at_ : Int), .slice B 256 d] w fun e w' => e = .returned (.int .i64 0) ∧ X.Lies w0 w' (.disk p n (s.write at_ (hdB seq pl)) :: .row (Kd.int .u8) 5 (.slice B 256 d) (hdB seq pl) :: L) := by
  have hw := disk_Write.part w0 w _ p n s (at_ : Int) B d (hdB seq pl) h (by rw [hdB_length]; exact X.Rd.row 0 rfl) (by rw [hdB_length]; exact (h.rowC 1 rfl).2.1) (hdB_u8 seq pl) (fun ad e _ => by
    obtain ⟨O, hO⟩ := h.rowed 1 rfl
    obtain ⟨g, c, e2, -⟩ := Kd.R_form hO (by rw [hdB_length]; decide)
    obtain ⟨rfl, -, -⟩ := Value.slice.inj e2
    cases e
    exact ⟨_, _, rfl⟩) hpl
  have hb : hasB (at_ : Int) n = true := decide_eq_true ⟨by omega, by omega⟩
  rw [hdB_length] at hw
  rw [show putE n (at_ : Int) 256 = 0 from by unfold putE; rw [if_pos hb, if_pos rfl], show put s n (at_ : Int) (hdB seq pl) = s.write at_ (hdB seq pl) from by unfold put; rw [if_pos ⟨hb, hdB_length _ _⟩, Int.toNat_natCast]] at hw
  exact hw
set_option maxHeartbeats 16000000 in
set_option maxRecDepth 100000 in
theorem log_Home.part (w0 w : World) (L : List X.Res) (g p n : Nat) (d : X.DS) (ls : Pure.LS)
    (h : X.Lies w0 w (.disk p n d :: Pure.logP g p ls :: L)) (hok : ls.Ok n) (hpl : d.pend.length ≤ 100000000) (hll : ls.live.length ≤ 1000) :
    Calls Try.prog 26 #[.pointer (some ⟨g, 0, none⟩)] w fun e w' => e = .returned (.tuple #[]) ∧ X.Lies w0 w' (.disk p n (Pure.homeD d ls) :: Pure.logP g p (Pure.homeS ls) :: L) := by
  obtain ⟨Al, cl, h2, hgl⟩ := Pure.logP_open h.swap
  have HS := Aside0.mk (h2.perm [2, 0, 1] 3 (by decide) (by decide))
  have HGL := Aside0.mk hgl
  have HOK := Aside0.mk hok
  have HPL := Aside0.mk hpl
  have HLL := Aside0.mk hll
  have c5_ : w.cell? ⟨g, 5, none⟩ = some (.slice Al ls.live.length cl) := (HS.out.boxed 1 rfl).cell 5 _ rfl
  clear h h2 hgl hok hpl hll
  by_cases hl0 : ls.live.length = 0
  · have q0 : decide (((ls.live.length : Nat) : Int) = 0) = true := decide_eq_true (by omega)
    have q1 : decide (ls.live.length = 0) = true := decide_eq_true hl0
    have q2 : (((ls.live.length : Nat) : Int) == 0) = true := by rw [beq_iff_eq]; omega
    have HN := Aside0.mk (List.length_eq_zero_iff.1 hl0)
    clear hl0
    go_enter Try.func26, Try.ntmps26
    go_wp2_with fail
    refine bodyPost_ret (results_none rfl _ _ _) rfl ?_
    refine ⟨rfl, ?_⟩
    rw [show Pure.homeD d ls = d from if_pos HN.out]
    have e2 : Pure.homeS ls = ls := by
      unfold Pure.homeS
      rw [← HN.out]
    rw [e2]
    exact (Pure.logP_close (HS.out.perm [1, 2, 0] 3 (by decide) (by decide))).swap
  have q0 : decide (((ls.live.length : Nat) : Int) = 0) = false := decide_eq_false (by omega)
  have q1 : decide (ls.live.length = 0) = false := decide_eq_false hl0
  have q2 : (((ls.live.length : Nat) : Int) == 0) = false := by rw [beq_eq_false_iff_ne]; omega
  obtain ⟨gl, rfl⟩ := HGL.out (by omega)
  have hmm := @run_makeMap Try.prog
  have HS1 : Aside0 (X.Lies w0 (w.alloc (.map #[] 0)) (imap w.heap.size (fun _ => none) :: .disk p n d :: .box g (Pure.logC p ls (.slice (some ⟨gl, 0, none⟩) ls.live.length cl)) 93 :: .rows k60 60 (.slice (some ⟨gl, 0, none⟩) ls.live.length cl) ls.live :: L)) := ⟨imap_new HS.out⟩
  have HNE : Aside0 (ls.live ≠ []) := ⟨fun e => hl0 (by rw [e]; rfl)⟩
  obtain ⟨gm, hgm⟩ : ∃ gm, gm = w.heap.size := ⟨_, rfl⟩
  rw [← hgm] at HS1
  have d5_ : (w.alloc (.map #[] 0)).cell? ⟨g, 5, none⟩ = some (.slice (some ⟨gl, 0, none⟩) ls.live.length cl) := (HS1.out.boxed 2 rfl).cell 5 _ rfl
  clear hl0 HGL HS
  go_enter Try.func26, Try.ntmps26
  go_wp2_with fail
  rw [← hgm]
  clear c5_ d5_ hgm hmm
  go_loopg [3, 4, 6, 29] ls.live.length (fun gk v3_ v4_ v6_ v29_ w' => ∃ (i : Nat), v29_ = .int .i64 (i : Int) ∧ Aside0 (gk + i = ls.live.length) ∧ Aside0 (X.Lies w0 w' (imap gm (fun j => (revL ls.live i j).map fun m : Nat => Value.int .i64 (m : Int)) :: .disk p n d :: .box g (Pure.logC p ls (.slice (some ⟨gl, 0, none⟩) ls.live.length cl)) 93 :: .rows k60 60 (.slice (some ⟨gl, 0, none⟩) ls.live.length cl) ls.live :: L)))
  case atStart => exact ⟨0, rfl, ⟨by omega⟩, HS1⟩
  case round =>
    clear HS1
    obtain ⟨i, rfl, HK, HS⟩ := hrel
    by_cases hlt : i < ls.live.length
    · have q3 : decide ((i : Int) < (ls.live.length : Int)) = true := decide_eq_true (by omega)
      have q33 : decide (i < ls.live.length) = true := decide_eq_true hlt
      obtain ⟨t, ht⟩ : ∃ t, ls.live[i]? = some t := ⟨_, List.getElem?_eq_getElem hlt⟩
      have HT := Aside0.mk ht
      obtain ⟨cs, hrg, -, hft⟩ := (HS.out.perm [3, 0, 1, 2] 4 (by decide) (by decide)).rget ht
      obtain ⟨A1, c1, A2, c2, rfl, hc1, hC1, hc2, hC2⟩ := Pure.kTx_K (hft.read 0 rfl)
      have HRG := Aside0.mk hrg
      have HS2 := Aside0.mk ((hft.perm [2, 3, 4, 1, 0] 5 (by decide) (by decide)).alloc #[.int .u64 t.f0, .slice A1 t.f1.length c1, .slice A2 t.f2.length c2] 60)
      have HLT := Aside0.mk hlt
      have HRL : Aside0 (t.f2.length ≤ 58) := ⟨by have := (Pure.may_facts (HOK.out.live t (List.mem_of_getElem? ht)).1).1; omega⟩
      clear ht hrg hft hc1 hC1 hc2 hC2
      go_wp2_with ((with_reducible refine gate_ (.load 60 (.tmp 32)) rfl ?_); (refine wpList_load_mid rfl 60 (.tmp 32) rfl gl (i * 3) (by rfl) [.int .u64 t.f0, .slice A1 t.f1.length c1, .slice A2 t.f2.length c2] _ HRG.out Try.underlying60 rfl Pure.info_txn ?_))
      obtain ⟨gt, hgt⟩ : ∃ gt, gt = wr.heap.size := ⟨_, rfl⟩
      have HS3 : Aside0 (X.Lies w0 (wr.alloc (.cells #[.int .u64 t.f0, .slice A1 t.f1.length c1, .slice A2 t.f2.length c2] 60)) (imap gm (fun j => (revIn ls.live i t.f2 0 j).map fun m : Nat => Value.int .i64 (m : Int)) :: .box gt #[.int .u64 t.f0, .slice A1 t.f1.length c1, .slice A2 t.f2.length c2] 60 :: .disk p n d :: .box g (Pure.logC p ls (.slice (some ⟨gl, 0, none⟩) ls.live.length cl)) 93 :: .rows k60 60 (.slice (some ⟨gl, 0, none⟩) ls.live.length cl) ls.live :: .ft (fun w' => k60.K w' t [.int .u64 t.f0, .slice A1 t.f1.length c1, .slice A2 t.f2.length c2]) :: L)) := ⟨by simp only [revIn_zero]; rw [hgt]; exact HS2.out.swap⟩
      rw [← hgt]
      clear HS2 HS HRG hgt hlt
      generalize wr.alloc _ = w1 at *
      obtain ⟨ko, rfl⟩ : ∃ ko, gk = ko + 1 := ⟨gk - 1, by have := HK.out; have := HLT.out; omega⟩
      go_loopg [6, 37] t.f2.length (fun gk2 v6_ v37_ w' => ∃ (k : Nat), v37_ = .int .i64 (k : Int) ∧ Aside0 (gk2 + k = t.f2.length) ∧ Aside0 (X.Lies w0 w' (imap gm (fun j => (revIn ls.live i t.f2 k j).map fun m : Nat => Value.int .i64 (m : Int)) :: .box gt #[.int .u64 t.f0, .slice A1 t.f1.length c1, .slice A2 t.f2.length c2] 60 :: .disk p n d :: .box g (Pure.logC p ls (.slice (some ⟨gl, 0, none⟩) ls.live.length cl)) 93 :: .rows k60 60 (.slice (some ⟨gl, 0, none⟩) ls.live.length cl) ls.live :: .ft (fun w' => k60.K w' t [.int .u64 t.f0, .slice A1 t.f1.length c1, .slice A2 t.f2.length c2]) :: L)))
      case atStart => exact ⟨0, rfl, ⟨by omega⟩, HS3⟩
      case round =>
        clear HS3
        obtain ⟨k, rfl, HJ, HS⟩ := hrel
        by_cases hk : k < t.f2.length
        · have q4 : decide ((k : Int) < (t.f2.length : Int)) = true := decide_eq_true (by omega)
          have q44 : decide (k < t.f2.length) = true := decide_eq_true hk
          obtain ⟨b, hb⟩ : ∃ b, t.f2[k]? = some b := ⟨_, List.getElem?_eq_getElem hk⟩
          obtain ⟨ga, oa, rfl, hca⟩ := Pure.int_at (kTx_of (HS.out.read 5 rfl)).2.2 hb
          obtain ⟨w5, hrun, hs⟩ := imap_store HS.out (i := b) (out_range HOK.out.n1 ((ok_out HOK.out (List.mem_of_getElem? HT.out)).2 b (List.mem_of_getElem? hb))) (fun j v hj => by
            obtain ⟨m, hm, -⟩ := Option.map_eq_some_iff.1 hj
            exact rev_range HOK.out HT.out hm) (.int .i64 (i : Int))
          have e1 : (fun j => if j = b then some (Value.int .i64 (i : Int)) else (revIn ls.live i t.f2 k j).map fun m : Nat => Value.int .i64 (m : Int)) = fun j => (revIn ls.live i t.f2 (k + 1) j).map fun m : Nat => Value.int .i64 (m : Int) := by
            funext j
            rw [revIn_next hb]
            split
            · rfl
            · rfl
          rw [e1] at hs
          have HS5 := Aside0.mk hs
          have HKB := Aside0.mk hk
          clear hs e1 hb HS
          go_wp2_with fail
          clear hk
          cases gk with
          | zero => exact absurd HJ.out (by have := HKB.out; omega)
          | succ k1 =>
            go_roundg k1
            case measure => omega
            case rel => exact ⟨k + 1, by rw [Pure.sucw k (by have := HKB.out; have := HRL.out; omega)]; rfl, ⟨by have := HJ.out; omega⟩, HS5⟩
        · have q4 : decide ((k : Int) < (t.f2.length : Int)) = false := decide_eq_false (by omega)
          have q44 : decide (k < t.f2.length) = false := decide_eq_false hk
          obtain rfl : k = t.f2.length := by have := HJ.out; omega
          have HS5 : Aside0 (X.Lies w0 wr (imap gm (fun j => (revL ls.live (i + 1) j).map fun m : Nat => Value.int .i64 (m : Int)) :: .disk p n d :: .box g (Pure.logC p ls (.slice (some ⟨gl, 0, none⟩) ls.live.length cl)) 93 :: .rows k60 60 (.slice (some ⟨gl, 0, none⟩) ls.live.length cl) ls.live :: L)) := ⟨by
            have h := HS.out.perm [0, 2, 3, 4] 6 (by decide) (by decide)
            simp only [revIn_whole HT.out] at h
            exact h⟩
          clear HS HJ hk
          go_wp2_with fail
          go_roundg ko
          case measure => omega
          case rel => exact ⟨i + 1, by rw [Pure.sucw i (by have := HLT.out; have := HLL.out; omega)]; rfl, ⟨by have := HK.out; omega⟩, HS5⟩
    · have q3 : decide ((i : Int) < (ls.live.length : Int)) = false := decide_eq_false (by omega)
      have q33 : decide (i < ls.live.length) = false := decide_eq_false hlt
      obtain rfl : i = ls.live.length := by have := HK.out; omega
      clear HK hlt
      have c0_ : wr.cell? ⟨g, 0, none⟩ = some (.pointer (some ⟨p, 0, none⟩)) := (HS.out.boxed 2 rfl).cell 0 _ rfl
      go_wp2_with fail
      refine (disk_Flush.part w0 wr _ p n d (HS.out.perm [1, 0, 2, 3] 4 (by decide) (by decide))).mono ?_
      rintro e w4 ⟨rfl, hs⟩
      have HS4 : Aside0 (X.Lies w0 w4 (.disk p n d.flush :: imap gm (fun j => (revL ls.live ls.live.length j).map fun m : Nat => Value.int .i64 (m : Int)) :: .box g (Pure.logC p ls (.slice (some ⟨gl, 0, none⟩) ls.live.length cl)) 93 :: .rows k60 60 (.slice (some ⟨gl, 0, none⟩) ls.live.length cl) ls.live :: L)) := ⟨hs⟩
      have c5_ : w4.cell? ⟨g, 5, none⟩ = some (.slice (some ⟨gl, 0, none⟩) ls.live.length cl) := (hs.boxed 2 rfl).cell 5 _ rfl
      clear hs HS c0_
      go_wp2_with fail
      clear c5_
      go_loopg [7, 8, 10, 11, 12, 56] ls.live.length (fun gk v7_ v8_ v10_ v11_ v12_ v56_ w' => ∃ (i : Nat), v56_ = .int .i64 (i : Int) ∧ Aside0 (gk + i = ls.live.length) ∧ Aside0 (X.Lies w0 w' (.disk p n (Pure.apTo ls.live d.flush i) :: imap gm (fun j => (revL ls.live ls.live.length j).map fun m : Nat => Value.int .i64 (m : Int)) :: .box g (Pure.logC p ls (.slice (some ⟨gl, 0, none⟩) ls.live.length cl)) 93 :: .rows k60 60 (.slice (some ⟨gl, 0, none⟩) ls.live.length cl) ls.live :: L)))
      case atStart => exact ⟨0, rfl, ⟨by omega⟩, HS4⟩
      case round =>
        clear HS4
        obtain ⟨i, rfl, HK, HS⟩ := hrel
        by_cases hlt : i < ls.live.length
        · have q3 : decide ((i : Int) < (ls.live.length : Int)) = true := decide_eq_true (by omega)
          have q33 : decide (i < ls.live.length) = true := decide_eq_true hlt
          obtain ⟨t, ht⟩ : ∃ t, ls.live[i]? = some t := ⟨_, List.getElem?_eq_getElem hlt⟩
          have HT := Aside0.mk ht
          obtain ⟨cs, hrg, -, hft⟩ := (HS.out.perm [3, 0, 1, 2] 4 (by decide) (by decide)).rget ht
          obtain ⟨A1, c1, A2, c2, rfl, hc1, hC1, hc2, hC2⟩ := Pure.kTx_K (hft.read 0 rfl)
          have HRG := Aside0.mk hrg
          have HS2 := Aside0.mk ((hft.perm [2, 3, 4, 1, 0] 5 (by decide) (by decide)).alloc #[.int .u64 t.f0, .slice A1 t.f1.length c1, .slice A2 t.f2.length c2] 60)
          have HLT := Aside0.mk hlt
          have HMF := Aside0.mk (Pure.may_facts (HOK.out.live t (List.mem_of_getElem? ht)).1)
          have HCM := Aside0.mk (HOK.out.live t (List.mem_of_getElem? ht)).2.1
          clear ht hrg hft hc1 hC1 hc2 hC2
          go_wp2_with ((with_reducible refine gate_ (.load 60 (.tmp 59)) rfl ?_); (refine wpList_load_mid rfl 60 (.tmp 59) rfl gl (i * 3) (by rfl) [.int .u64 t.f0, .slice A1 t.f1.length c1, .slice A2 t.f2.length c2] _ HRG.out Try.underlying60 rfl Pure.info_txn ?_))
          obtain ⟨gt, hgt⟩ : ∃ gt, gt = wr.heap.size := ⟨_, rfl⟩
          have HS3 : Aside0 (X.Lies w0 (wr.alloc (.cells #[.int .u64 t.f0, .slice A1 t.f1.length c1, .slice A2 t.f2.length c2] 60)) (.disk p n (Pure.wrTo ls.live i t.f1 (Pure.apTo ls.live d.flush i) 0) :: imap gm (fun j => (revL ls.live ls.live.length j).map fun m : Nat => Value.int .i64 (m : Int)) :: .box g (Pure.logC p ls (.slice (some ⟨gl, 0, none⟩) ls.live.length cl)) 93 :: .rows k60 60 (.slice (some ⟨gl, 0, none⟩) ls.live.length cl) ls.live :: .ft (fun w' => k60.K w' t [.int .u64 t.f0, .slice A1 t.f1.length c1, .slice A2 t.f2.length c2]) :: .box gt #[.int .u64 t.f0, .slice A1 t.f1.length c1, .slice A2 t.f2.length c2] 60 :: L)) := ⟨by rw [hgt]; exact HS2.out.perm [1, 2, 3, 4, 5, 0] 6 (by decide) (by decide)⟩
          rw [← hgt]
          clear HS2 HS HRG hgt hlt
          generalize wr.alloc _ = w1 at *
          obtain ⟨ko, rfl⟩ : ∃ ko, gk = ko + 1 := ⟨gk - 1, by have := HK.out; have := HLT.out; omega⟩
          go_loopg [10, 11, 12, 64] t.f1.length (fun gk2 v10_ v11_ v12_ v64_ w' => ∃ (k : Nat), v64_ = .int .i64 (k : Int) ∧ Aside0 (gk2 + k = t.f1.length) ∧ Aside0 (X.Lies w0 w' (.disk p n (Pure.wrTo ls.live i t.f1 (Pure.apTo ls.live d.flush i) k) :: imap gm (fun j => (revL ls.live ls.live.length j).map fun m : Nat => Value.int .i64 (m : Int)) :: .box g (Pure.logC p ls (.slice (some ⟨gl, 0, none⟩) ls.live.length cl)) 93 :: .rows k60 60 (.slice (some ⟨gl, 0, none⟩) ls.live.length cl) ls.live :: .ft (fun w' => k60.K w' t [.int .u64 t.f0, .slice A1 t.f1.length c1, .slice A2 t.f2.length c2]) :: .box gt #[.int .u64 t.f0, .slice A1 t.f1.length c1, .slice A2 t.f2.length c2] 60 :: L)))
          case atStart => exact ⟨0, rfl, ⟨by omega⟩, HS3⟩
          case round =>
            clear HS3
            obtain ⟨k, rfl, HJ, HS⟩ := hrel
            by_cases hk : k < t.f1.length
            · have q4 : decide ((k : Int) < (t.f1.length : Int)) = true := decide_eq_true (by omega)
              have q44 : decide (k < t.f1.length) = true := decide_eq_true hk
              obtain ⟨x, hx⟩ : ∃ x, t.f1[k]? = some x := ⟨_, List.getElem?_eq_getElem hk⟩
              obtain ⟨ga, oa, Ax, cx, rfl, hrg, hcx, hCx⟩ := Pure.wr_at (kTx_of (HS.out.read 4 rfl)).1.2 hx
              have HX := Aside0.mk hx
              have HRG := Aside0.mk hrg
              have HKB := Aside0.mk hk
              have HW2 : Aside0 (x.f1.length = 256 ∧ X.u8all x.f1 = true) := ⟨HMF.out.2.1 x (List.mem_of_getElem? hx), List.all_eq_true.1 HCM.out.data x (List.mem_of_getElem? hx)⟩
              have HCX := Aside0.mk hcx
              have HOB := Aside0.mk ((ok_out HOK.out (List.mem_of_getElem? HT.out)).1 x (List.mem_of_getElem? hx))
              have HPD : Aside0 ((Pure.wrTo ls.live i t.f1 (Pure.apTo ls.live d.flush i) k).pend.length ≤ 500000000000) := ⟨by
                have h1 := wrTo_pend ls.live i t.f1 (Pure.apTo ls.live d.flush i) k
                have h2 := apTo_pend ls.live d.flush (fun t2 ht2 => by have := (Pure.may_facts (HOK.out.live t2 ht2).1).1; omega) i
                have h3 := X.DS.flush_pend d
                have := HPL.out
                have := HKB.out
                have := HLT.out
                have := HLL.out
                have := HMF.out.1
                omega⟩
              obtain ⟨gw, hgw⟩ : ∃ gw, gw = wr.heap.size := ⟨_, rfl⟩
              have HS5 : Aside0 (X.Lies w0 (wr.alloc (.cells #[.int .i64 x.f0, .slice Ax x.f1.length cx] 66)) (.disk p n (Pure.wrTo ls.live i t.f1 (Pure.apTo ls.live d.flush i) k) :: .ft (fun w' => (Kd.int .u8).C w' Ax x.f1.length x.f1) :: imap gm (fun j => (revL ls.live ls.live.length j).map fun m : Nat => Value.int .i64 (m : Int)) :: .box g (Pure.logC p ls (.slice (some ⟨gl, 0, none⟩) ls.live.length cl)) 93 :: .rows k60 60 (.slice (some ⟨gl, 0, none⟩) ls.live.length cl) ls.live :: .ft (fun w' => k60.K w' t [.int .u64 t.f0, .slice (some ⟨ga, oa, none⟩) t.f1.length c1, .slice A2 t.f2.length c2]) :: .box gt #[.int .u64 t.f0, .slice (some ⟨ga, oa, none⟩) t.f1.length c1, .slice A2 t.f2.length c2] 60 :: .box gw #[.int .i64 x.f0, .slice Ax x.f1.length cx] 66 :: L)) := ⟨by
                have h1 := Lies_also (Q := fun w' => (Kd.int .u8).C w' Ax x.f1.length x.f1) (HS.out.perm [4, 0, 1, 2, 3, 5] 6 (by decide) (by decide)) (fun S hF => ft_wr (hF.imp (fun w' hK => (kTx_of hK).1.2)) hx hrg)
                have h2 := h1.alloc #[.int .i64 x.f0, .slice Ax x.f1.length cx] 66
                rw [← hgw] at h2
                exact h2.perm [3, 1, 4, 5, 6, 2, 7, 0] 8 (by decide) (by decide)⟩
              have hlook := imap_look HS5.out 2 rfl (i := x.f0) (out_range HOK.out.n1 HOB.out)
              have hrs := rev_same ls.live i x.f0
              clear hx hrg hcx hCx HS
              cases hrev : revL ls.live ls.live.length x.f0 with
              | none =>
                rw [hrev] at hlook hrs
                simp only [Option.map_none, Option.getD_none, Option.isSome_none] at hlook hrs
                go_wp2_with ((with_reducible refine gate_ (.load 66 (.tmp 66)) rfl ?_); (refine wpList_load_mid rfl 66 (.tmp 66) rfl ga (oa + k * 2) (by rfl) [.int .i64 x.f0, .slice Ax x.f1.length cx] _ HRG.out Try.underlying66 rfl Pure.infoW ?_))
                clear hlook hk HRG
                rw [← hgw]
                clear hgw
                generalize wr.alloc _ = w1 at *
                · skip
                  have HR : Aside0 (Pure.revB ls.live i x.f0 = false) := ⟨hrs⟩
                  have HD : Aside0 (Pure.wrTo ls.live i t.f1 (Pure.apTo ls.live d.flush i) (k + 1) = put (Pure.wrTo ls.live i t.f1 (Pure.apTo ls.live d.flush i) k) n x.f0 x.f1) := ⟨by
                    rw [Pure.wrTo]
                    simp only [HX.out]
                    rw [if_neg (by rw [HR.out]; decide)]
                    unfold put
                    rw [if_pos ⟨out_hasB HOB.out, HW2.out.1⟩]⟩
                  refine start_ (n := 9) (S := (fun w' => X.Blk w' g (Pure.logC p ls (.slice (some ⟨gl, 0, none⟩) ls.live.length cl)) 93 ∧ X.Blk w' gw #[.int .i64 x.f0, .slice Ax x.f1.length cx] 66)) (ds := []) #[false, false, false, false, false, false, false, false, false] (by kernel_rfl) rfl rfl ⟨HS5.out.drew.boxed 3 rfl, HS5.out.drew.boxed 7 rfl⟩ (fun hHeld => ?_)
                  have HSa := Aside0.mk (HS5.out.drew)
                  generalize World.drew _ = wa at *
                  clear HS5
                  refine pure_ (i := 0) (N := some 82) (v := ?_) (a' := ?_) #[true, false, false, false, false, false, false, false, false] rfl rfl (by kernel_rfl) (fun _ _ _ h => h) (Or.inl ⟨by rfl, ?_⟩) ?_ ?_
                  rotate_left
                  · intro w'
                    go_simp
                    with_reducible rfl
                  rotate_left
                  · simp only [Act.put, List.setIfInBounds_toArray, List.set_cons_zero, List.set_cons_succ, i64_w, i32_w]
                    rfl
                  refine pure_ (i := 1) (N := some 83) (v := ?_) (a' := ?_) #[true, true, false, false, false, false, false, false, false] rfl rfl (by kernel_rfl) (fun _ _ _ h => h) (Or.inl ⟨by rfl, ?_⟩) ?_ ?_
                  rotate_left
                  · intro w'
                    go_simp
                    with_reducible rfl
                  rotate_left
                  · simp only [Act.put, List.setIfInBounds_toArray, List.set_cons_zero, List.set_cons_succ, i64_w, i32_w]
                    rfl
                  refine pure_ (i := 2) (N := some 84) (v := ?_) (a' := ?_) #[true, true, true, false, false, false, false, false, false] rfl rfl (by kernel_rfl) (fun _ _ _ h => h) (Or.inl ⟨by rfl, ?_⟩) ?_ ?_
                  rotate_left
                  · intro w'
                    go_simp
                    with_reducible rfl
                  rotate_left
                  · simp only [Act.put, List.setIfInBounds_toArray, List.set_cons_zero, List.set_cons_succ, i64_w, i32_w]
                    rfl
                  refine take_ (i := 3) (N := some 85) (v := .pointer (some ⟨p, 0, none⟩)) (a' := ?_) #[true, true, true, true, false, false, false, false, false] rfl rfl (by kernel_rfl) (fun _ _ _ h => h) (Or.inl ⟨by rfl, ?_⟩) hHeld ?_ ?_
                  · intro w' hs_
                    obtain ⟨hs0, hs1⟩ := hs_
                    exact (by have x_ : w'.cell? ⟨g, 0, none⟩ = some (.pointer (some ⟨p, 0, none⟩)) := hs0.cell 0 _ rfl; go_simp; done)
                  rotate_left
                  · simp only [Act.put, List.setIfInBounds_toArray, List.set_cons_zero, List.set_cons_succ, i64_w, i32_w]
                    rfl
                  refine pure_ (i := 4) (N := some 86) (v := ?_) (a' := ?_) #[true, true, true, true, true, false, false, false, false] rfl rfl (by kernel_rfl) (fun _ _ _ h => h) (Or.inl ⟨by rfl, ?_⟩) ?_ ?_
                  rotate_left
                  · intro w'
                    go_simp
                    with_reducible rfl
                  rotate_left
                  · simp only [Act.put, List.setIfInBounds_toArray, List.set_cons_zero, List.set_cons_succ, i64_w, i32_w]
                    rfl
                  refine take_ (i := 5) (N := some 87) (v := .int .i64 x.f0) (a' := ?_) #[true, true, true, true, true, true, false, false, false] rfl rfl (by kernel_rfl) (fun _ _ _ h => h) (Or.inl ⟨by rfl, ?_⟩) hHeld ?_ ?_
                  · intro w' hs_
                    obtain ⟨hs0, hs1⟩ := hs_
                    exact (by have x_ : w'.cell? ⟨gw, 0, none⟩ = some (.int .i64 x.f0) := hs1.cell 0 _ rfl; go_simp; done)
                  rotate_left
                  · simp only [Act.put, List.setIfInBounds_toArray, List.set_cons_zero, List.set_cons_succ, i64_w, i32_w]
                    rfl
                  refine pure_ (i := 6) (N := some 88) (v := ?_) (a' := ?_) #[true, true, true, true, true, true, true, false, false] rfl rfl (by kernel_rfl) (fun _ _ _ h => h) (Or.inl ⟨by rfl, ?_⟩) ?_ ?_
                  rotate_left
                  · intro w'
                    go_simp
                    with_reducible rfl
                  rotate_left
                  · simp only [Act.put, List.setIfInBounds_toArray, List.set_cons_zero, List.set_cons_succ, i64_w, i32_w]
                    rfl
                  refine take_ (i := 7) (N := some 89) (v := .slice Ax x.f1.length cx) (a' := ?_) #[true, true, true, true, true, true, true, true, false] rfl rfl (by kernel_rfl) (fun _ _ _ h => h) (Or.inl ⟨by rfl, ?_⟩) hHeld ?_ ?_
                  · intro w' hs_
                    obtain ⟨hs0, hs1⟩ := hs_
                    exact (by have x_ : w'.cell? ⟨gw, 1, none⟩ = some (.slice Ax x.f1.length cx) := hs1.cell 1 _ rfl; go_simp; done)
                  rotate_left
                  · simp only [Act.put, List.setIfInBounds_toArray, List.set_cons_zero, List.set_cons_succ, i64_w, i32_w]
                    rfl
                  refine one_ (i := 8) (N := some 90) #[true, true, true, true, true, true, true, true, true] rfl rfl (by kernel_rfl) (by decide) (fun K hK => ?_)
                  refine goes_ Try.func13 (by kernel_rfl) rfl #[.pointer (some ⟨p, 0, none⟩), .int .i64 x.f0, .slice Ax x.f1.length cx] (by rfl) rfl rfl (by (try simp only [List.map_toArray, List.map_cons, List.map_nil]); first | done | rfl) ?_
                  refine (disk_Write.part w0 wa _ p n _ x.f0 Ax cx x.f1 HSa.out (X.Rd.ft 0 rfl) HCX.out HW2.out.2 (row_spot (HSa.out.read 1 rfl)) HPD.out).mono ?_
                  rintro e w5 ⟨rfl, hs⟩
                  rw [← HD.out] at hs
                  have HS6 := Aside0.mk hs
                  refine ⟨_, rfl, ?_⟩
                  clear hs HSa hHeld
                  refine hK.out _ _ ⟨HS6.out.boxed 3 rfl, HS6.out.boxed 7 rfl⟩ (fun hHeld => ?_)
                  clear hK K
                  refine norm_ (a' := ?_) ?_ ?_
                  rotate_left
                  · show Act.put _ (some 90) _ = _
                    simp only [Act.put, List.setIfInBounds_toArray, List.set_cons_zero, List.set_cons_succ, i64_w, i32_w]
                    rfl
                  clear hHeld
                  refine done_ (by kernel_rfl) ?_
                  have HS6 : Aside0 (X.Lies w0 w5 (.disk p n (Pure.wrTo ls.live i t.f1 (Pure.apTo ls.live d.flush i) (k + 1)) :: imap gm (fun j => (revL ls.live ls.live.length j).map fun m : Nat => Value.int .i64 (m : Int)) :: .box g (Pure.logC p ls (.slice (some ⟨gl, 0, none⟩) ls.live.length cl)) 93 :: .rows k60 60 (.slice (some ⟨gl, 0, none⟩) ls.live.length cl) ls.live :: .ft (fun w' => k60.K w' t [.int .u64 t.f0, .slice (some ⟨ga, oa, none⟩) t.f1.length c1, .slice A2 t.f2.length c2]) :: .box gt #[.int .u64 t.f0, .slice (some ⟨ga, oa, none⟩) t.f1.length c1, .slice A2 t.f2.length c2] 60 :: L)) := ⟨HS6.out.perm [0, 2, 3, 4, 5, 6] 8 (by decide) (by decide)⟩
                  go_wp2_with fail
                  cases gk with
                  | zero => exact absurd HJ.out (by have := HKB.out; omega)
                  | succ k1 =>
                    go_roundg k1
                    case measure => omega
                    case rel => exact ⟨k + 1, by rw [Pure.sucw k (by have := HKB.out; have := HMF.out.1; omega)]; rfl, ⟨by have := HJ.out; omega⟩, HS6⟩
              | some m =>
                rw [hrev] at hlook hrs
                simp only [Option.map_some, Option.getD_some, Option.isSome_some] at hlook hrs
                by_cases hmi : m ≤ i
                · have q5 : decide ((m : Int) ≤ (i : Int)) = true := decide_eq_true (by omega)
                  have q55 : decide (m ≤ i) = true := decide_eq_true hmi
                  go_wp2_with ((with_reducible refine gate_ (.load 66 (.tmp 66)) rfl ?_); (refine wpList_load_mid rfl 66 (.tmp 66) rfl ga (oa + k * 2) (by rfl) [.int .i64 x.f0, .slice Ax x.f1.length cx] _ HRG.out Try.underlying66 rfl Pure.infoW ?_))
                  clear hlook hk HRG
                  rw [← hgw]
                  clear hgw
                  generalize wr.alloc _ = w1 at *
                  have HR : Aside0 (Pure.revB ls.live i x.f0 = false) := ⟨by rw [hrs]; exact decide_eq_false (by omega)⟩
                  have HD : Aside0 (Pure.wrTo ls.live i t.f1 (Pure.apTo ls.live d.flush i) (k + 1) = put (Pure.wrTo ls.live i t.f1 (Pure.apTo ls.live d.flush i) k) n x.f0 x.f1) := ⟨by
                    rw [Pure.wrTo]
                    simp only [HX.out]
                    rw [if_neg (by rw [HR.out]; decide)]
                    unfold put
                    rw [if_pos ⟨out_hasB HOB.out, HW2.out.1⟩]⟩
                  refine start_ (n := 9) (S := (fun w' => X.Blk w' g (Pure.logC p ls (.slice (some ⟨gl, 0, none⟩) ls.live.length cl)) 93 ∧ X.Blk w' gw #[.int .i64 x.f0, .slice Ax x.f1.length cx] 66)) (ds := []) #[false, false, false, false, false, false, false, false, false] (by kernel_rfl) rfl rfl ⟨HS5.out.drew.boxed 3 rfl, HS5.out.drew.boxed 7 rfl⟩ (fun hHeld => ?_)
                  have HSa := Aside0.mk (HS5.out.drew)
                  generalize World.drew _ = wa at *
                  clear HS5
                  refine pure_ (i := 0) (N := some 82) (v := ?_) (a' := ?_) #[true, false, false, false, false, false, false, false, false] rfl rfl (by kernel_rfl) (fun _ _ _ h => h) (Or.inl ⟨by rfl, ?_⟩) ?_ ?_
                  rotate_left
                  · intro w'
                    go_simp
                    with_reducible rfl
                  rotate_left
                  · simp only [Act.put, List.setIfInBounds_toArray, List.set_cons_zero, List.set_cons_succ, i64_w, i32_w]
                    rfl
                  refine pure_ (i := 1) (N := some 83) (v := ?_) (a' := ?_) #[true, true, false, false, false, false, false, false, false] rfl rfl (by kernel_rfl) (fun _ _ _ h => h) (Or.inl ⟨by rfl, ?_⟩) ?_ ?_
                  rotate_left
                  · intro w'
                    go_simp
                    with_reducible rfl
                  rotate_left
                  · simp only [Act.put, List.setIfInBounds_toArray, List.set_cons_zero, List.set_cons_succ, i64_w, i32_w]
                    rfl
                  refine pure_ (i := 2) (N := some 84) (v := ?_) (a' := ?_) #[true, true, true, false, false, false, false, false, false] rfl rfl (by kernel_rfl) (fun _ _ _ h => h) (Or.inl ⟨by rfl, ?_⟩) ?_ ?_
                  rotate_left
                  · intro w'
                    go_simp
                    with_reducible rfl
                  rotate_left
                  · simp only [Act.put, List.setIfInBounds_toArray, List.set_cons_zero, List.set_cons_succ, i64_w, i32_w]
                    rfl
                  refine take_ (i := 3) (N := some 85) (v := .pointer (some ⟨p, 0, none⟩)) (a' := ?_) #[true, true, true, true, false, false, false, false, false] rfl rfl (by kernel_rfl) (fun _ _ _ h => h) (Or.inl ⟨by rfl, ?_⟩) hHeld ?_ ?_
                  · intro w' hs_
                    obtain ⟨hs0, hs1⟩ := hs_
                    exact (by have x_ : w'.cell? ⟨g, 0, none⟩ = some (.pointer (some ⟨p, 0, none⟩)) := hs0.cell 0 _ rfl; go_simp; done)
                  rotate_left
                  · simp only [Act.put, List.setIfInBounds_toArray, List.set_cons_zero, List.set_cons_succ, i64_w, i32_w]
                    rfl
                  refine pure_ (i := 4) (N := some 86) (v := ?_) (a' := ?_) #[true, true, true, true, true, false, false, false, false] rfl rfl (by kernel_rfl) (fun _ _ _ h => h) (Or.inl ⟨by rfl, ?_⟩) ?_ ?_
                  rotate_left
                  · intro w'
                    go_simp
                    with_reducible rfl
                  rotate_left
                  · simp only [Act.put, List.setIfInBounds_toArray, List.set_cons_zero, List.set_cons_succ, i64_w, i32_w]
                    rfl
                  refine take_ (i := 5) (N := some 87) (v := .int .i64 x.f0) (a' := ?_) #[true, true, true, true, true, true, false, false, false] rfl rfl (by kernel_rfl) (fun _ _ _ h => h) (Or.inl ⟨by rfl, ?_⟩) hHeld ?_ ?_
                  · intro w' hs_
                    obtain ⟨hs0, hs1⟩ := hs_
                    exact (by have x_ : w'.cell? ⟨gw, 0, none⟩ = some (.int .i64 x.f0) := hs1.cell 0 _ rfl; go_simp; done)
                  rotate_left
                  · simp only [Act.put, List.setIfInBounds_toArray, List.set_cons_zero, List.set_cons_succ, i64_w, i32_w]
                    rfl
                  refine pure_ (i := 6) (N := some 88) (v := ?_) (a' := ?_) #[true, true, true, true, true, true, true, false, false] rfl rfl (by kernel_rfl) (fun _ _ _ h => h) (Or.inl ⟨by rfl, ?_⟩) ?_ ?_
                  rotate_left
                  · intro w'
                    go_simp
                    with_reducible rfl
                  rotate_left
                  · simp only [Act.put, List.setIfInBounds_toArray, List.set_cons_zero, List.set_cons_succ, i64_w, i32_w]
                    rfl
                  refine take_ (i := 7) (N := some 89) (v := .slice Ax x.f1.length cx) (a' := ?_) #[true, true, true, true, true, true, true, true, false] rfl rfl (by kernel_rfl) (fun _ _ _ h => h) (Or.inl ⟨by rfl, ?_⟩) hHeld ?_ ?_
                  · intro w' hs_
                    obtain ⟨hs0, hs1⟩ := hs_
                    exact (by have x_ : w'.cell? ⟨gw, 1, none⟩ = some (.slice Ax x.f1.length cx) := hs1.cell 1 _ rfl; go_simp; done)
                  rotate_left
                  · simp only [Act.put, List.setIfInBounds_toArray, List.set_cons_zero, List.set_cons_succ, i64_w, i32_w]
                    rfl
                  refine one_ (i := 8) (N := some 90) #[true, true, true, true, true, true, true, true, true] rfl rfl (by kernel_rfl) (by decide) (fun K hK => ?_)
                  refine goes_ Try.func13 (by kernel_rfl) rfl #[.pointer (some ⟨p, 0, none⟩), .int .i64 x.f0, .slice Ax x.f1.length cx] (by rfl) rfl rfl (by (try simp only [List.map_toArray, List.map_cons, List.map_nil]); first | done | rfl) ?_
                  refine (disk_Write.part w0 wa _ p n _ x.f0 Ax cx x.f1 HSa.out (X.Rd.ft 0 rfl) HCX.out HW2.out.2 (row_spot (HSa.out.read 1 rfl)) HPD.out).mono ?_
                  rintro e w5 ⟨rfl, hs⟩
                  rw [← HD.out] at hs
                  have HS6 := Aside0.mk hs
                  refine ⟨_, rfl, ?_⟩
                  clear hs HSa hHeld
                  refine hK.out _ _ ⟨HS6.out.boxed 3 rfl, HS6.out.boxed 7 rfl⟩ (fun hHeld => ?_)
                  clear hK K
                  refine norm_ (a' := ?_) ?_ ?_
                  rotate_left
                  · show Act.put _ (some 90) _ = _
                    simp only [Act.put, List.setIfInBounds_toArray, List.set_cons_zero, List.set_cons_succ, i64_w, i32_w]
                    rfl
                  clear hHeld
                  refine done_ (by kernel_rfl) ?_
                  have HS6 : Aside0 (X.Lies w0 w5 (.disk p n (Pure.wrTo ls.live i t.f1 (Pure.apTo ls.live d.flush i) (k + 1)) :: imap gm (fun j => (revL ls.live ls.live.length j).map fun m : Nat => Value.int .i64 (m : Int)) :: .box g (Pure.logC p ls (.slice (some ⟨gl, 0, none⟩) ls.live.length cl)) 93 :: .rows k60 60 (.slice (some ⟨gl, 0, none⟩) ls.live.length cl) ls.live :: .ft (fun w' => k60.K w' t [.int .u64 t.f0, .slice (some ⟨ga, oa, none⟩) t.f1.length c1, .slice A2 t.f2.length c2]) :: .box gt #[.int .u64 t.f0, .slice (some ⟨ga, oa, none⟩) t.f1.length c1, .slice A2 t.f2.length c2] 60 :: L)) := ⟨HS6.out.perm [0, 2, 3, 4, 5, 6] 8 (by decide) (by decide)⟩
                  go_wp2_with fail
                  cases gk with
                  | zero => exact absurd HJ.out (by have := HKB.out; omega)
                  | succ k1 =>
                    go_roundg k1
                    case measure => omega
                    case rel => exact ⟨k + 1, by rw [Pure.sucw k (by have := HKB.out; have := HMF.out.1; omega)]; rfl, ⟨by have := HJ.out; omega⟩, HS6⟩
                · have q5 : decide ((m : Int) ≤ (i : Int)) = false := decide_eq_false (by omega)
                  have q55 : decide (m ≤ i) = false := decide_eq_false hmi
                  go_wp2_with ((with_reducible refine gate_ (.load 66 (.tmp 66)) rfl ?_); (refine wpList_load_mid rfl 66 (.tmp 66) rfl ga (oa + k * 2) (by rfl) [.int .i64 x.f0, .slice Ax x.f1.length cx] _ HRG.out Try.underlying66 rfl Pure.infoW ?_))
                  clear hlook hk HRG
                  rw [← hgw]
                  clear hgw
                  generalize wr.alloc _ = w1 at *
                  have HD : Aside0 (Pure.wrTo ls.live i t.f1 (Pure.apTo ls.live d.flush i) (k + 1) = Pure.wrTo ls.live i t.f1 (Pure.apTo ls.live d.flush i) k) := ⟨by
                    rw [Pure.wrTo]
                    simp only [HX.out]
                    rw [if_pos (by rw [hrs]; exact decide_eq_true (by omega))]⟩
                  have HS6 := Aside0.mk (HS5.out.perm [0, 2, 3, 4, 5, 6] 8 (by decide) (by decide))
                  rw [← HD.out] at HS6
                  clear HS5
                  go_wp2_with fail
                  cases gk with
                  | zero => exact absurd HJ.out (by have := HKB.out; omega)
                  | succ k1 =>
                    go_roundg k1
                    case measure => omega
                    case rel => exact ⟨k + 1, by rw [Pure.sucw k (by have := HKB.out; have := HMF.out.1; omega)]; rfl, ⟨by have := HJ.out; omega⟩, HS6⟩
            · have q4 : decide ((k : Int) < (t.f1.length : Int)) = false := decide_eq_false (by omega)
              have q44 : decide (k < t.f1.length) = false := decide_eq_false hk
              obtain rfl : k = t.f1.length := by have := HJ.out; omega
              have HS5 : Aside0 (X.Lies w0 wr (.disk p n (Pure.apTo ls.live d.flush (i + 1)) :: imap gm (fun j => (revL ls.live ls.live.length j).map fun m : Nat => Value.int .i64 (m : Int)) :: .box g (Pure.logC p ls (.slice (some ⟨gl, 0, none⟩) ls.live.length cl)) 93 :: .rows k60 60 (.slice (some ⟨gl, 0, none⟩) ls.live.length cl) ls.live :: L)) := ⟨by
                have h := HS.out.perm [0, 1, 2, 3] 6 (by decide) (by decide)
                rw [show Pure.wrTo ls.live i t.f1 (Pure.apTo ls.live d.flush i) t.f1.length = Pure.apTo ls.live d.flush (i + 1) from by rw [Pure.apTo]; simp only [HT.out]] at h
                exact h⟩
              clear HS HJ hk
              go_wp2_with fail
              go_roundg ko
              case measure => omega
              case rel => exact ⟨i + 1, by rw [Pure.sucw i (by have := HLT.out; have := HLL.out; omega)]; rfl, ⟨by have := HK.out; omega⟩, HS5⟩
        · have q3 : decide ((i : Int) < (ls.live.length : Int)) = false := decide_eq_false (by omega)
          have q33 : decide (i < ls.live.length) = false := decide_eq_false hlt
          obtain rfl : i = ls.live.length := by have := HK.out; omega
          have HPE : Aside0 ((Pure.apTo ls.live d.flush ls.live.length).flush.pend.length ≤ 500000000000) := ⟨by
            have h2 := apTo_pend ls.live d.flush (fun t2 ht2 => by have := (Pure.may_facts (HOK.out.live t2 ht2).1).1; omega) ls.live.length
            have h3 := X.DS.flush_pend d
            have h4 := X.DS.flush_pend (Pure.apTo ls.live d.flush ls.live.length)
            have := HPL.out
            have := HLL.out
            omega⟩
          have HSN : Aside0 (ls.st < n) := ⟨by have := HOK.out.fit; have := HOK.out.l0; omega⟩
          have HPB : Aside0 (ls.pl ≤ 1000000) := ⟨by have := HOK.out.pl; have := HOK.out.l1; omega⟩
          have c0_ : wr.cell? ⟨g, 0, none⟩ = some (.pointer (some ⟨p, 0, none⟩)) := (HS.out.boxed 2 rfl).cell 0 _ rfl
          clear HK hlt
          go_wp2_with fail
          refine (disk_Flush.part w0 wr _ p n _ HS.out).mono ?_
          rintro e w7 ⟨rfl, hs⟩
          have HS7 := Aside0.mk hs
          clear hs HS c0_
          go_wp2_with fail
          refine start_ (n := 18) (S := (fun w' => X.Blk w' g (Pure.logC p ls (.slice (some ⟨gl, 0, none⟩) ls.live.length cl)) 93)) (ds := []) #[false, false, false, false, false, false, false, false, false, false, false, false, false, false, false, false, false, false] (by kernel_rfl) rfl rfl (HS7.out.drew.boxed 2 rfl) (fun hHeld => ?_)
          have HSa := Aside0.mk (HS7.out.drew)
          generalize World.drew _ = wa at *
          clear HS7
          refine pure_ (i := 0) (N := some 98) (v := ?_) (a' := ?_) #[true, false, false, false, false, false, false, false, false, false, false, false, false, false, false, false, false, false] rfl rfl (by kernel_rfl) (fun _ _ _ h => h) (Or.inl ⟨by rfl, ?_⟩) ?_ ?_
          rotate_left
          · intro w'
            go_simp
            with_reducible rfl
          rotate_left
          · simp only [Act.put, List.setIfInBounds_toArray, List.set_cons_zero, List.set_cons_succ, i64_w, i32_w]
            rfl
          refine pure_ (i := 1) (N := some 99) (v := ?_) (a' := ?_) #[true, true, false, false, false, false, false, false, false, false, false, false, false, false, false, false, false, false] rfl rfl (by kernel_rfl) (fun _ _ _ h => h) (Or.inl ⟨by rfl, ?_⟩) ?_ ?_
          rotate_left
          · intro w'
            go_simp
            with_reducible rfl
          rotate_left
          · simp only [Act.put, List.setIfInBounds_toArray, List.set_cons_zero, List.set_cons_succ, i64_w, i32_w]
            rfl
          refine pure_ (i := 2) (N := some 100) (v := ?_) (a' := ?_) #[true, true, true, false, false, false, false, false, false, false, false, false, false, false, false, false, false, false] rfl rfl (by kernel_rfl) (fun _ _ _ h => h) (Or.inl ⟨by rfl, ?_⟩) ?_ ?_
          rotate_left
          · intro w'
            go_simp
            with_reducible rfl
          rotate_left
          · simp only [Act.put, List.setIfInBounds_toArray, List.set_cons_zero, List.set_cons_succ, i64_w, i32_w]
            rfl
          refine take_ (i := 3) (N := some 101) (v := .pointer (some ⟨p, 0, none⟩)) (a' := ?_) #[true, true, true, true, false, false, false, false, false, false, false, false, false, false, false, false, false, false] rfl rfl (by kernel_rfl) (fun _ _ _ h => h) (Or.inl ⟨by rfl, ?_⟩) hHeld ?_ ?_
          · intro w' hs_
            exact (by have x_ : w'.cell? ⟨g, 0, none⟩ = some (.pointer (some ⟨p, 0, none⟩)) := hs_.cell 0 _ rfl; go_simp; done)
          rotate_left
          · simp only [Act.put, List.setIfInBounds_toArray, List.set_cons_zero, List.set_cons_succ, i64_w, i32_w]
            rfl
          refine pure_ (i := 4) (N := some 102) (v := ?_) (a' := ?_) #[true, true, true, true, true, false, false, false, false, false, false, false, false, false, false, false, false, false] rfl rfl (by kernel_rfl) (fun _ _ _ h => h) (Or.inl ⟨by rfl, ?_⟩) ?_ ?_
          rotate_left
          · intro w'
            go_simp
            with_reducible rfl
          rotate_left
          · simp only [Act.put, List.setIfInBounds_toArray, List.set_cons_zero, List.set_cons_succ, i64_w, i32_w]
            rfl
          refine pure_ (i := 5) (N := some 103) (v := ?_) (a' := ?_) #[true, true, true, true, true, true, false, false, false, false, false, false, false, false, false, false, false, false] rfl rfl (by kernel_rfl) (fun _ _ _ h => h) (Or.inl ⟨by rfl, ?_⟩) ?_ ?_
          rotate_left
          · intro w'
            go_simp
            with_reducible rfl
          rotate_left
          · simp only [Act.put, List.setIfInBounds_toArray, List.set_cons_zero, List.set_cons_succ, i64_w, i32_w]
            rfl
          refine pure_ (i := 6) (N := some 104) (v := ?_) (a' := ?_) #[true, true, true, true, true, true, true, false, false, false, false, false, false, false, false, false, false, false] rfl rfl (by kernel_rfl) (fun _ _ _ h => h) (Or.inl ⟨by rfl, ?_⟩) ?_ ?_
          rotate_left
          · intro w'
            go_simp
            with_reducible rfl
          rotate_left
          · simp only [Act.put, List.setIfInBounds_toArray, List.set_cons_zero, List.set_cons_succ, i64_w, i32_w]
            rfl
          refine take_ (i := 7) (N := some 105) (v := .int .i64 (ls.st : Int)) (a' := ?_) #[true, true, true, true, true, true, true, true, false, false, false, false, false, false, false, false, false, false] rfl rfl (by kernel_rfl) (fun _ _ _ h => h) (Or.inl ⟨by rfl, ?_⟩) hHeld ?_ ?_
          · intro w' hs_
            exact (by have x_ : w'.cell? ⟨g, 1, none⟩ = some (.int .i64 (ls.st : Int)) := hs_.cell 1 _ rfl; go_simp; done)
          rotate_left
          · simp only [Act.put, List.setIfInBounds_toArray, List.set_cons_zero, List.set_cons_succ, i64_w, i32_w]
            rfl
          refine pure_ (i := 8) (N := some 106) (v := ?_) (a' := ?_) #[true, true, true, true, true, true, true, true, true, false, false, false, false, false, false, false, false, false] rfl rfl (by kernel_rfl) (fun _ _ _ h => h) (Or.inl ⟨by rfl, ?_⟩) ?_ ?_
          rotate_left
          · intro w'
            go_simp
            with_reducible rfl
          rotate_left
          · simp only [Act.put, List.setIfInBounds_toArray, List.set_cons_zero, List.set_cons_succ, i64_w, i32_w]
            rfl
          refine pure_ (i := 9) (N := some 107) (v := ?_) (a' := ?_) #[true, true, true, true, true, true, true, true, true, true, false, false, false, false, false, false, false, false] rfl rfl (by kernel_rfl) (fun _ _ _ h => h) (Or.inl ⟨by rfl, ?_⟩) ?_ ?_
          rotate_left
          · intro w'
            go_simp
            with_reducible rfl
          rotate_left
          · simp only [Act.put, List.setIfInBounds_toArray, List.set_cons_zero, List.set_cons_succ, i64_w, i32_w]
            rfl
          refine pure_ (i := 10) (N := some 108) (v := ?_) (a' := ?_) #[true, true, true, true, true, true, true, true, true, true, true, false, false, false, false, false, false, false] rfl rfl (by kernel_rfl) (fun _ _ _ h => h) (Or.inl ⟨by rfl, ?_⟩) ?_ ?_
          rotate_left
          · intro w'
            go_simp
            with_reducible rfl
          rotate_left
          · simp only [Act.put, List.setIfInBounds_toArray, List.set_cons_zero, List.set_cons_succ, i64_w, i32_w]
            rfl
          refine take_ (i := 11) (N := some 109) (v := .int .u64 ls.seq) (a' := ?_) #[true, true, true, true, true, true, true, true, true, true, true, true, false, false, false, false, false, false] rfl rfl (by kernel_rfl) (fun _ _ _ h => h) (Or.inl ⟨by rfl, ?_⟩) hHeld ?_ ?_
          · intro w' hs_
            exact (by have x_ : w'.cell? ⟨g, 3, none⟩ = some (.int .u64 ls.seq) := hs_.cell 3 _ rfl; go_simp; done)
          rotate_left
          · simp only [Act.put, List.setIfInBounds_toArray, List.set_cons_zero, List.set_cons_succ, i64_w, i32_w]
            rfl
          refine pure_ (i := 12) (N := some 110) (v := ?_) (a' := ?_) #[true, true, true, true, true, true, true, true, true, true, true, true, true, false, false, false, false, false] rfl rfl (by kernel_rfl) (fun _ _ _ h => h) (Or.inl ⟨by rfl, ?_⟩) ?_ ?_
          rotate_left
          · intro w'
            go_simp
            with_reducible rfl
          rotate_left
          · simp only [Act.put, List.setIfInBounds_toArray, List.set_cons_zero, List.set_cons_succ, i64_w, i32_w]
            rfl
          refine pure_ (i := 13) (N := some 111) (v := ?_) (a' := ?_) #[true, true, true, true, true, true, true, true, true, true, true, true, true, true, false, false, false, false] rfl rfl (by kernel_rfl) (fun _ _ _ h => h) (Or.inl ⟨by rfl, ?_⟩) ?_ ?_
          rotate_left
          · intro w'
            go_simp
            with_reducible rfl
          rotate_left
          · simp only [Act.put, List.setIfInBounds_toArray, List.set_cons_zero, List.set_cons_succ, i64_w, i32_w]
            rfl
          refine pure_ (i := 14) (N := some 112) (v := ?_) (a' := ?_) #[true, true, true, true, true, true, true, true, true, true, true, true, true, true, true, false, false, false] rfl rfl (by kernel_rfl) (fun _ _ _ h => h) (Or.inl ⟨by rfl, ?_⟩) ?_ ?_
          rotate_left
          · intro w'
            go_simp
            with_reducible rfl
          rotate_left
          · simp only [Act.put, List.setIfInBounds_toArray, List.set_cons_zero, List.set_cons_succ, i64_w, i32_w]
            rfl
          refine take_ (i := 15) (N := some 113) (v := .int .i64 (ls.pl : Int)) (a' := ?_) #[true, true, true, true, true, true, true, true, true, true, true, true, true, true, true, true, false, false] rfl rfl (by kernel_rfl) (fun _ _ _ h => h) (Or.inl ⟨by rfl, ?_⟩) hHeld ?_ ?_
          · intro w' hs_
            exact (by have x_ : w'.cell? ⟨g, 4, none⟩ = some (.int .i64 (ls.pl : Int)) := hs_.cell 4 _ rfl; go_simp; done)
          rotate_left
          · simp only [Act.put, List.setIfInBounds_toArray, List.set_cons_zero, List.set_cons_succ, i64_w, i32_w]
            rfl
          refine one_ (i := 16) (N := some 114) #[true, true, true, true, true, true, true, true, true, true, true, true, true, true, true, true, true, false] rfl rfl (by kernel_rfl) (by decide) (fun K hK => ?_)
          refine goes_ Try.func43 (by kernel_rfl) rfl #[.int .u64 ls.seq, .int .i64 (ls.pl : Int)] (by rfl) rfl rfl (by (try simp only [List.map_toArray, List.map_cons, List.map_nil]); first | done | rfl) ?_
          refine (log_head.part w0 wa _ ls.seq ls.pl HSa.out HPB.out).mono ?_
          rintro e wb ⟨Bh, dh, rfl, hs⟩
          have HSb := Aside0.mk (hs.perm [1, 0, 2, 3, 4] 5 (by decide) (by decide))
          refine ⟨_, rfl, ?_⟩
          clear hs HSa hHeld
          refine hK.out _ _ (HSb.out.boxed 3 rfl) (fun hHeld => ?_)
          clear hK K
          refine norm_ (a' := ?_) ?_ ?_
          rotate_left
          · show Act.put _ (some 114) _ = _
            simp only [Act.put, List.setIfInBounds_toArray, List.set_cons_zero, List.set_cons_succ, i64_w, i32_w]
            rfl
          refine one_ (i := 17) (N := some 115) #[true, true, true, true, true, true, true, true, true, true, true, true, true, true, true, true, true, true] rfl rfl (by kernel_rfl) (by decide) (fun K hK => ?_)
          refine goes_ Try.func13 (by kernel_rfl) rfl #[.pointer (some ⟨p, 0, none⟩), .int .i64 (ls.st : Int), .slice Bh 256 dh] (by rfl) rfl rfl (by (try simp only [List.map_toArray, List.map_cons, List.map_nil]); first | done | rfl) ?_
          refine (home_head w0 wb _ p n _ ls.st ls.seq ls.pl Bh dh HSb.out HSN.out HPE.out).mono ?_
          rintro e wc ⟨rfl, hs⟩
          have HSc := Aside0.mk hs
          refine ⟨_, rfl, ?_⟩
          clear hs HSb hHeld
          refine hK.out _ _ (HSc.out.boxed 3 rfl) (fun hHeld => ?_)
          clear hK K
          refine norm_ (a' := ?_) ?_ ?_
          rotate_left
          · show Act.put _ (some 115) _ = _
            simp only [Act.put, List.setIfInBounds_toArray, List.set_cons_zero, List.set_cons_succ, i64_w, i32_w]
            rfl
          clear hHeld
          refine done_ (by kernel_rfl) ?_
          have c0_ : wc.cell? ⟨g, 0, none⟩ = some (.pointer (some ⟨p, 0, none⟩)) := (HSc.out.boxed 3 rfl).cell 0 _ rfl
          go_wp2_with fail
          refine (disk_Flush.part w0 wc _ p n _ HSc.out).mono ?_
          rintro e w8 ⟨rfl, hs⟩
          have HS8 := Aside0.mk (hs.perm [3, 0] 5 (by decide) (by decide))
          have f5_ := (HS8.out.boxed 0 rfl).free 5
          have f6_ := (HS8.out.boxed 0 rfl).free 6
          have g5_ : w8.cell? ⟨g, 5, none⟩ = some (.slice (some ⟨gl, 0, none⟩) ls.live.length cl) := (HS8.out.boxed 0 rfl).cell 5 _ rfl
          have g6_ : w8.cell? ⟨g, 6, none⟩ = some (.int .i64 (ls.used : Int)) := (HS8.out.boxed 0 rfl).cell 6 _ rfl
          have HS9 := Aside0.mk (((HS8.out.set 5 (.slice none 0 0)).set 6 (.int .i64 0)))
          clear hs HSc c0_
          go_wp2_with fail
          go_end0
          refine ⟨rfl, ?_⟩
          rw [show Pure.homeD d ls = ((((Pure.apTo ls.live d.flush ls.live.length).flush).write ls.st (hdB ls.seq ls.pl)).flush) from if_neg HNE.out]
          have h9 := (HS9.out.rnil (d := k60) (e := 60)).swap
          exact (Pure.logP_close (s := ⟨ls.st, ls.len, ls.seq, ls.pl, []⟩) h9).swap
end Go.Proofs.Ytlbfpjhnpnbikaa.U
