/- Ux15: what this claim uses. Laid by slim.py (ours). -/
import Derived.Test.YtlbfpjhnpnbikaaKUx0
import Derived.Test.YtlbfpjhnpnbikaaKUx5
import Derived.Test.YtlbfpjhnpnbikaaKUx11
namespace Go.Proofs.Ytlbfpjhnpnbikaa.U
open Go.RowKit Go.Proofs.YtlbfpjhnpnbikaaW.PrintWords Go.Proofs.YtlbfpjhnpnbikaaW.PrintLast Go.Proofs.YtlbfpjhnpnbikaaW.PrintMore
attribute [local go_sem] max2_int min2_int max_two min_two max_three min_three max_four min_four
set_option linter.unusedVariables false
set_option linter.unusedSimpArgs false
def pbN (v : Int) (n : Nat) : List Int := (List.range n).map (fun i => (v / 2 ^ (8 * i)) % 256)
theorem pbN_length (v : Int) (n : Nat) : (pbN v n).length = n := by simp [pbN]
theorem pbN_u8 (v : Int) (n : Nat) : X.u8all (pbN v n) = true := by
  refine X.u8all_iff.2 (fun c hc => ?_)
  obtain ⟨i, _, rfl⟩ := List.mem_map.1 hc
  exact ⟨Int.emod_nonneg _ (by decide), Int.emod_lt_of_pos _ (by decide)⟩
theorem pbN_succ (v : Int) (n : Nat) : pbN v (n + 1) = pbN v n ++ [(v / 2 ^ (8 * n)) % 256] := by
  unfold pbN
  rw [List.range_succ, List.map_append]
  rfl
theorem pb_shr (v : Int) (i : Nat) (hi : i ≤ 8) : shr .u64 v ((8 * i : Nat) : Int) = v / 2 ^ (8 * i) := by
  unfold shr
  rw [Int.toNat_natCast, Nat.min_eq_left (by show 8 * i ≤ 64; omega)]
theorem pb_wrap {x : Int} (h1 : -9223372036854775808 ≤ x) (h2 : x ≤ 9223372036854775807) : wrap64 x = x := by unfold wrap64; omega
theorem pb_l0 (v : Int) (n : Nat) (hn : n ≤ 8) : ∀ (d i k : Nat), i + d = n → d < k →
    crc_Bytes.l0 k v (pbN v i ++ List.replicate d 0) (n : Int) (i : Int) = some (pbN v n)
  | 0, i, k, hi, hk => by
    obtain ⟨k, rfl⟩ : ∃ m, k = m + 1 := ⟨k - 1, by omega⟩
    rw [crc_Bytes.l0, if_neg (by omega), show i = n from by omega]
    simp
  | d + 1, i, k, hi, hk => by
    obtain ⟨k, rfl⟩ : ∃ m, k = m + 1 := ⟨k - 1, by omega⟩
    have ih := pb_l0 v n hn d (i + 1) k (by omega) (by omega)
    have hw : wrap64 ((i : Int) + 1) = ((i + 1 : Nat) : Int) := by rw [pb_wrap (by omega) (by omega)]; omega
    have hw8 : wrap64 (8 * (i : Int)) = ((8 * i : Nat) : Int) := by rw [pb_wrap (by omega) (by omega)]; omega
    rw [crc_Bytes.l0, if_pos (by omega), hw8, if_pos (by omega), if_pos (by omega), if_pos (by rw [List.length_append, pbN_length, List.length_replicate]; omega), hw, pb_shr v i (by omega), Int.toNat_natCast]
    have he : (pbN v i ++ List.replicate (d + 1) 0).set i ((v / 2 ^ (8 * i)) % 256) = pbN v (i + 1) ++ List.replicate d 0 := by
      rw [List.set_append_right _ _ (by rw [pbN_length]; exact Nat.le_refl _), pbN_length, Nat.sub_self, List.replicate_succ, List.set_cons_zero, pbN_succ, List.append_assoc]
      rfl
    rw [he]
    exact ih
theorem pb_f (v : Int) (n : Nat) (hn : n ≤ 8) : crc_Bytes.f 9 v (n : Int) = some (pbN v n) := by
  unfold crc_Bytes.f
  have e : mx 0 (mn (n : Int) 8) = (n : Int) := by unfold mx mn; split <;> split <;> omega
  rw [e, if_pos (by omega), Int.toNat_natCast, if_pos (by omega), Option.bind_some, List.length_replicate]
  exact pb_l0 v n hn n 0 9 (by omega) (by omega)
def padded (p : List Int) : List Int := p ++ List.replicate (256 - p.length) 0
theorem padded_lay {p ys : List Int} (h : p.length + ys.length ≤ 256) : X.lay (padded p) p.length ys = padded (p ++ ys) := by
  unfold X.lay padded
  rw [List.take_append_of_le_length (Nat.le_refl _), List.take_length, List.drop_append, List.drop_of_length_le (by omega), List.nil_append, List.append_assoc, List.length_append, Nat.add_sub_cancel_left, List.drop_replicate]
  rw [show 256 - p.length - ys.length = 256 - (p.length + ys.length) from by omega]
structure Page (w0 w : World) (g gb cap : Nat) (xs : List Int) (a : Nat) : Prop where
  box : X.Blk w g #[.slice (some ⟨gb, 0, none⟩) 256 cap, .int .i64 (a : Int)] 120
  row : Kd.R (Kd.int .u8) 5 w w0.heap.size (fun k => k = gb) (.slice (some ⟨gb, 0, none⟩) 256 cap) xs
  ne : g ≠ gb
  ge : w0.heap.size ≤ g
  below : Below w0.heap.size w0 w
theorem Page.len {w0 w : World} {g gb cap : Nat} {xs : List Int} {a : Nat} (h : Page w0 w g gb cap xs a) : xs.length = 256 := (Kd.R_reads' h.row).1.symm
theorem Page.rowge {w0 w : World} {g gb cap : Nat} {xs : List Int} {a : Nat} (h : Page w0 w g gb cap xs a) : w0.heap.size ≤ gb := by
  obtain ⟨g', cap', hv, h1, _⟩ := Kd.R_form h.row (by rw [h.len]; decide)
  injection hv with hv1
  injection hv1 with hv1
  injection hv1 with hv1
  rw [hv1]
  exact h1
theorem Page.step {w0 w w' : World} {g gb cap : Nat} {xs : List Int} {a : Nat} (h : Page w0 w g gb cap xs a) (hb : Below w.heap.size w w') : Page w0 w' g gb cap xs a :=
  ⟨h.box.below hb h.box.lt, Kd.R_below h.row hb, h.ne, h.ge, h.below.trans (hb.mono h.below.size)⟩
theorem Page.grown {w0 w w' : World} {g gb cap : Nat} {xs ys : List Int} {a : Nat} (h : Page w0 w g gb cap xs a) (hr : Kd.R (Kd.int .u8) 5 w' w0.heap.size (fun k => k = gb) (.slice (some ⟨gb, 0, none⟩) 256 cap) ys) (hg : w.grownBy w' (some gb)) : Page w0 w' g gb cap ys a :=
  ⟨(hg.block g h.box.lt (by intro e; injection e with e; exact h.ne e)).trans h.box, hr, h.ne, h.ge, h.below.grown hg h.below.size (fun j hj => by injection hj with hj; rw [← hj]; exact h.rowge)⟩
theorem Page.at_ {w0 w : World} {g gb cap : Nat} {xs : List Int} {a : Nat} (h : Page w0 w g gb cap xs a) (b : Nat) : Page w0 (w.setCell ⟨g, 1, none⟩ (.int .i64 (b : Int))) g gb cap xs b :=
  ⟨h.box.set 1 (.int .i64 (b : Int)), Kd.R_move h.row (fun k hk => Below.heap_setCell w ⟨g, 1, none⟩ _ k (by rw [hk]; exact fun e => h.ne e.symm)), h.ne, h.ge, h.below.setCell (p := ⟨g, 1, none⟩) h.ge _⟩
set_option maxHeartbeats 4000000 in
set_option maxRecDepth 100000 in
theorem record_put_raw (w0 : World) (g gb cap : Nat) (xs ys : List Int) (a n : Nat) (v : Int) (w : World) (hp : Page w0 w g gb cap xs a) (ha : a < 256) (hn : a + n ≤ 256) (hy : crc_Bytes.f 9 v (n : Int) = some ys) (hl : ys.length = n) :
    Calls Try.prog 69 #[.pointer (some ⟨g, 0, none⟩), .int .u64 v, .int .i64 (n : Int)] w fun e w' => e = .returned (.tuple #[]) ∧ Page w0 w' g gb cap (X.lay xs a ys) (a + n) := by
  have HP := Aside0.mk hp
  have HY := Aside0.mk hy
  have HL := Aside0.mk hl
  clear hp hy hl
  go_enter Try.func69, Try.ntmps69
  go_wp2_with fail
  have HP1 := Aside0.mk (HP.out.step (below_drew1 (Below.refl _ _)))
  have hcap := (Kd.R_reads' HP1.out.row).2.1
  have hcz : ¬ cap = a := by omega
  have hcz2 : (a : Int) ≤ 256 := by omega
  refine start_ (n := 13) (S := (fun w' => w'.cell? ⟨g, 0, none⟩ = some (.slice (some ⟨gb, 0, none⟩) 256 cap) ∧ w'.cell? ⟨g, 1, none⟩ = some (.int .i64 (a : Int)))) (ds := []) #[false, false, false, false, false, false, false, false, false, false, false, false, false] (by kernel_rfl) rfl rfl ⟨HP1.out.box.cell 0 _ rfl, HP1.out.box.cell 1 _ rfl⟩ (fun hHeld => ?_)
  generalize w.drew = w1 at HP1 hHeld ⊢
  clear HP
  refine pure_ (i := 0) (N := some 6) (v := ?_) (a' := ?_) #[true, false, false, false, false, false, false, false, false, false, false, false, false] rfl rfl (by kernel_rfl) (fun _ _ _ h => h) (Or.inl ⟨by rfl, ?_⟩) ?_ ?_
  rotate_left
  · intro w'
    go_simp
    with_reducible rfl
  rotate_left
  · simp only [Act.put, List.setIfInBounds_toArray, List.set_cons_zero, List.set_cons_succ, i64_w, i32_w]
    rfl
  refine pure_ (i := 1) (N := some 7) (v := ?_) (a' := ?_) #[true, true, false, false, false, false, false, false, false, false, false, false, false] rfl rfl (by kernel_rfl) (fun _ _ _ h => h) (Or.inl ⟨by rfl, ?_⟩) ?_ ?_
  rotate_left
  · intro w'
    go_simp
    with_reducible rfl
  rotate_left
  · simp only [Act.put, List.setIfInBounds_toArray, List.set_cons_zero, List.set_cons_succ, i64_w, i32_w]
    rfl
  refine pure_ (i := 2) (N := some 8) (v := ?_) (a' := ?_) #[true, true, true, false, false, false, false, false, false, false, false, false, false] rfl rfl (by kernel_rfl) (fun _ _ _ h => h) (Or.inl ⟨by rfl, ?_⟩) ?_ ?_
  rotate_left
  · intro w'
    go_simp
    with_reducible rfl
  rotate_left
  · simp only [Act.put, List.setIfInBounds_toArray, List.set_cons_zero, List.set_cons_succ, i64_w, i32_w]
    rfl
  refine take_ (i := 3) (N := some 9) (v := ?_) (a' := ?_) #[true, true, true, true, false, false, false, false, false, false, false, false, false] rfl rfl (by kernel_rfl) (fun _ _ _ h => h) (Or.inl ⟨by rfl, ?_⟩) hHeld ?_ ?_
  rotate_left
  · intro w' hs_
    obtain ⟨hs0, hs1⟩ := hs_
    go_simp
    with_reducible rfl
  rotate_left
  · simp only [Act.put, List.setIfInBounds_toArray, List.set_cons_zero, List.set_cons_succ, i64_w, i32_w]
    rfl
  refine pure_ (i := 4) (N := some 10) (v := ?_) (a' := ?_) #[true, true, true, true, true, false, false, false, false, false, false, false, false] rfl rfl (by kernel_rfl) (fun _ _ _ h => h) (Or.inl ⟨by rfl, ?_⟩) ?_ ?_
  rotate_left
  · intro w'
    go_simp
    with_reducible rfl
  rotate_left
  · simp only [Act.put, List.setIfInBounds_toArray, List.set_cons_zero, List.set_cons_succ, i64_w, i32_w]
    rfl
  refine pure_ (i := 5) (N := some 11) (v := ?_) (a' := ?_) #[true, true, true, true, true, true, false, false, false, false, false, false, false] rfl rfl (by kernel_rfl) (fun _ _ _ h => h) (Or.inl ⟨by rfl, ?_⟩) ?_ ?_
  rotate_left
  · intro w'
    go_simp
    with_reducible rfl
  rotate_left
  · simp only [Act.put, List.setIfInBounds_toArray, List.set_cons_zero, List.set_cons_succ, i64_w, i32_w]
    rfl
  refine pure_ (i := 6) (N := some 12) (v := ?_) (a' := ?_) #[true, true, true, true, true, true, true, false, false, false, false, false, false] rfl rfl (by kernel_rfl) (fun _ _ _ h => h) (Or.inl ⟨by rfl, ?_⟩) ?_ ?_
  rotate_left
  · intro w'
    go_simp
    with_reducible rfl
  rotate_left
  · simp only [Act.put, List.setIfInBounds_toArray, List.set_cons_zero, List.set_cons_succ, i64_w, i32_w]
    rfl
  refine take_ (i := 7) (N := some 13) (v := ?_) (a' := ?_) #[true, true, true, true, true, true, true, true, false, false, false, false, false] rfl rfl (by kernel_rfl) (fun _ _ _ h => h) (Or.inl ⟨by rfl, ?_⟩) hHeld ?_ ?_
  rotate_left
  · intro w' hs_
    obtain ⟨hs0, hs1⟩ := hs_
    go_simp
    with_reducible rfl
  rotate_left
  · simp only [Act.put, List.setIfInBounds_toArray, List.set_cons_zero, List.set_cons_succ, i64_w, i32_w]
    rfl
  refine pure_ (i := 8) (N := some 14) (v := ?_) (a' := ?_) #[true, true, true, true, true, true, true, true, true, false, false, false, false] rfl rfl (by kernel_rfl) (fun _ _ _ h => h) (Or.inl ⟨by rfl, ?_⟩) ?_ ?_
  rotate_left
  · intro w'
    go_simp
    with_reducible rfl
  rotate_left
  · simp only [Act.put, List.setIfInBounds_toArray, List.set_cons_zero, List.set_cons_succ, i64_w, i32_w]
    rfl
  refine pure_ (i := 9) (N := some 15) (v := ?_) (a' := ?_) #[true, true, true, true, true, true, true, true, true, true, false, false, false] rfl rfl (by kernel_rfl) (fun _ _ _ h => h) (Or.inl ⟨by rfl, ?_⟩) ?_ ?_
  rotate_left
  · intro w'
    go_simp
    with_reducible rfl
  rotate_left
  · simp only [Act.put, List.setIfInBounds_toArray, List.set_cons_zero, List.set_cons_succ, i64_w, i32_w]
    rfl
  refine pure_ (i := 10) (N := some 16) (v := ?_) (a' := ?_) #[true, true, true, true, true, true, true, true, true, true, true, false, false] rfl rfl (by kernel_rfl) (fun _ _ _ h => h) (Or.inl ⟨by rfl, ?_⟩) ?_ ?_
  rotate_left
  · intro w'
    go_simp
    with_reducible rfl
  rotate_left
  · simp only [Act.put, List.setIfInBounds_toArray, List.set_cons_zero, List.set_cons_succ, i64_w, i32_w]
    rfl
  refine one_ (i := 11) (N := some 17) #[true, true, true, true, true, true, true, true, true, true, true, true, false] rfl rfl (by kernel_rfl) (by decide) (fun K hK => ?_)
  refine goes_ Try.func62 (by kernel_rfl) rfl #[.int .u64 v, .int .i64 (n : Int)] (by rfl) rfl rfl (by (try simp only [List.map_toArray, List.map_cons, List.map_nil]); first | done | rfl) ?_
  refine (crc_Bytes.calls 9 v (n : Int) ys _ HY.out).mono ?_
  rintro e w2 ⟨u, rfl, ho, hd⟩
  refine ⟨_, rfl, ?_⟩
  have HP2 := Aside0.mk (HP1.out.step hd)
  have HO := Aside0.mk ho
  clear ho hd HP1 hHeld
  refine hK.out _ _ ⟨HP2.out.box.cell 0 _ rfl, HP2.out.box.cell 1 _ rfl⟩ (fun hHeld => ?_)
  clear hK K
  refine norm_ (a' := ?_) ?_ ?_
  rotate_left
  · show Act.put _ (some 17) _ = _
    simp only [Act.put, List.setIfInBounds_toArray, List.set_cons_zero, List.set_cons_succ, i64_w, i32_w]
    rfl
  obtain ⟨A2, c2, e2⟩ := Kd.R_slice HO.out
  rw [HL.out] at e2
  subst e2
  have HC2 : Aside0 (Kd.C (Kd.int .u8) w2 A2 n ys) := ⟨by have := (Kd.R_reads' HO.out).2.2; rw [HL.out] at this; exact this⟩
  clear HO
  refine one_ (i := 12) (N := some 18) #[true, true, true, true, true, true, true, true, true, true, true, true, true] rfl rfl (by kernel_rfl) (by decide) (fun K hK => ?_)
  refine X.copy_step (P := Try.prog) .u8 w0.heap.size (by rfl) rfl (.tmp 14) (.tmp 17) 22 22 5 rfl Try.underlying22 (by obtain ⟨i, hi, _, hs, _⟩ := info_parts info5; rw [hi]; exact congrArg some hs) gb 256 cap a (256 - a) (cap - a) A2 n c2 _ ys (fun k => k = gb) rfl rfl HP2.out.row HC2.out (by omega) (by omega) HP2.out.below HP2.out.below.size ?_
  intro w3 hr3 hb3 hg3
  have HP3 := Aside0.mk (HP2.out.grown hr3 hg3)
  clear hr3 hb3 hg3 HC2
  refine hK.out _ _ ⟨HP3.out.box.cell 0 _ rfl, HP3.out.box.cell 1 _ rfl⟩ (fun hHeld => ?_)
  clear hK K
  refine norm_ (a' := ?_) ?_ ?_
  rotate_left
  · show Act.put _ (some 18) _ = _
    simp only [Act.put, List.setIfInBounds_toArray, List.set_cons_zero, List.set_cons_succ, i64_w, i32_w]
    rfl
  clear hHeld HP2 hcz hcz2
  refine done_ (by kernel_rfl) ?_
  have c1 := HP3.out.box.cell 1 _ rfl
  have f1 := HP3.out.box.free 1
  have e1 : IntKind.i64.wrap ((a : Int) + (n : Int)) = ((a + n : Nat) : Int) := by rw [IntWalk.i64_in _ (by omega)]; rfl
  have HPF := Aside0.mk (HP3.out.at_ (a + n))
  go_wp2
  go_end0
  exact ⟨rfl, HPF.out⟩
structure PageP (w0 w : World) (g gb cap : Nat) (p : List Int) : Prop where
  le : p.length ≤ 256
  pg : Page w0 w g gb cap (padded p) p.length
theorem PageP.step {w0 w w' : World} {g gb cap : Nat} {p : List Int} (h : PageP w0 w g gb cap p) (hb : Below w.heap.size w w') : PageP w0 w' g gb cap p := ⟨h.le, h.pg.step hb⟩
theorem record_put.calls (w0 : World) (g gb cap : Nat) (p : List Int) (n : Nat) (v : Int) (w : World) (hp : PageP w0 w g gb cap p) (ha : p.length < 256) (hn : p.length + n ≤ 256) (h8 : n ≤ 8) :
    Calls Try.prog 69 #[.pointer (some ⟨g, 0, none⟩), .int .u64 v, .int .i64 (n : Int)] w fun e w' => e = .returned (.tuple #[]) ∧ PageP w0 w' g gb cap (p ++ pbN v n) := by
  refine (record_put_raw w0 g gb _ _ _ _ n v w hp.pg ha hn (pb_f v n h8) (pbN_length v n)).mono fun e w' ⟨he, h⟩ => ⟨he, ?_, ?_⟩
  · rw [List.length_append, pbN_length]
    exact hn
  · rw [padded_lay (by rw [pbN_length]; exact hn)] at h
    rw [List.length_append, pbN_length]
    exact h
def headL (kind seq : Int) : List Int := [85, 76, 79, 71] ++ pbN kind 4 ++ pbN seq 8
theorem headL_length (kind seq : Int) : (headL kind seq).length = 16 := by
  unfold headL
  rw [List.length_append, List.length_append, pbN_length, pbN_length]
  rfl
set_option maxHeartbeats 4000000 in
set_option maxRecDepth 100000 in
theorem record_newPage.calls (kind seq : Int) (w : World) (hk0 : 0 ≤ kind) (hk1 : kind < 256) :
    Calls Try.prog 68 #[.int .u8 kind, .int .u64 seq] w fun e w' => ∃ g gb cap, e = .returned (.pointer (some ⟨g, 0, none⟩)) ∧ PageP w w' g gb cap (headL kind seq) := by
  obtain ⟨zs, hzs⟩ : ∃ zs : List Int, zs = List.replicate 256 0 := ⟨_, rfl⟩
  have HZ := Aside0.mk hzs
  go_enter Try.func68, Try.ntmps68
  go_wp2_with (first | ((with_reducible refine gate_dst (N := 6) rfl ?_); refine Kd.R_make (Kd.int .u8) _ 5 rfl (N := 6) rfl 22 _ _ rfl 256 rfl rfl Try.underlying22 (.int .u8 0) 1 info5 rfl (by decide) (by decide) 0 (ok := fun _ => True) (okp := fun _ => True) rfl (fun _ hk => hk) trivial (by decide) (by decide) (Below.refl _ _) (Nat.le_refl _) ?_; intro v1 w1 ho hb hg_ hnew_; have HO := Aside0.mk ho; have HB := Aside0.mk hb; clear ho hb hg_ hnew_; obtain ⟨gb, cap, e1, hgb, hgl, -⟩ := Kd.R_form HO.out (by decide); subst e1; have HR1 : Aside0 (Kd.R (Kd.int .u8) 5 w1 w.heap.size (fun k => k = gb) (.slice (some ⟨gb, 0, none⟩) 256 cap) zs) := (by have h1 := Kd.R_mono (Kd.R_tight (d := Kd.int .u8) rfl HO.out) (fun k hk => (by have := hk; simp [Value.ownBlock] at this; exact this : k = gb)); rw [HZ.out]; exact ⟨h1⟩); clear HO) | (refine X.copyS_at (P := Try.prog) w.heap.size rfl _ _ 22 9 5 rfl Try.underlying22 (by obtain ⟨i, hi, _, hs, _⟩ := info_parts info5; rw [hi]; exact congrArg some hs) gb 256 cap 0 256 cap { data := #[85, 76, 79, 71] } zs (fun k => k = gb) rfl rfl (Kd.R_alloc HR1.out _) (by decide) (by decide) (below_alloc HB.out _) (by have := HB.out.size; simp; omega) ?_; intro w2 hr2 hb2 hg2; have HR2 := Aside0.mk hr2; have HB2 := Aside0.mk hb2; have HPG : Aside0 (Page w w2 w1.heap.size gb cap (X.lay zs 0 (X.nums { data := #[85, 76, 79, 71] })) 0) := ⟨⟨(hg2.block w1.heap.size (by simp) (by intro e; injection e with e; omega)).trans (X.Blk.new w1 #[.slice (some ⟨gb, 0, none⟩) 256 cap, .int .i64 0] 120), hr2, by omega, HB.out.size, hb2⟩⟩; have c1 := HPG.out.box.cell 1 _ rfl; have f1 := HPG.out.box.free 1; clear hr2 hb2 hg2 HR1 HB))
  have HPP : Aside0 (PageP w (w2.setCell ⟨w1.heap.size, 1, none⟩ (.int .i64 4)) w1.heap.size gb cap [85, 76, 79, 71]) := ⟨by decide, by
    have h1 := HPG.out.at_ 4
    have e1 : X.lay zs 0 (X.nums { data := #[85, 76, 79, 71] }) = padded [85, 76, 79, 71] := by rw [HZ.out]; rfl
    rw [e1] at h1
    exact h1⟩
  generalize hg : w1.heap.size = g at *
  clear c1 f1 HPG hgb hgl hg
  refine (record_put.calls w g gb cap [85, 76, 79, 71] 4 kind _ HPP.out (by decide) (by decide) (by decide)).mono ?_
  rintro e w3 ⟨rfl, h3⟩
  have HP3 := Aside0.mk h3
  clear h3 HPP
  go_wp2_with fail
  refine (record_put.calls w g gb cap ([85, 76, 79, 71] ++ pbN kind 4) 8 seq _ HP3.out (by rw [List.length_append, pbN_length]; decide) (by rw [List.length_append, pbN_length]; decide) (by decide)).mono ?_
  rintro e w4 ⟨rfl, h4⟩
  have HP4 := Aside0.mk h4
  clear h4 HP3
  go_wp2
  go_ret
  exact ⟨g, gb, cap, rfl, HP4.out⟩
end Go.Proofs.Ytlbfpjhnpnbikaa.U
