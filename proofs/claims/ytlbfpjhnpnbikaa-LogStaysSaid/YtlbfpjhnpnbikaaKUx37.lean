/- Ux37: what this claim uses. Laid by slim.py (ours). -/
import Derived.Test.YtlbfpjhnpnbikaaKPLog3
import Derived.Test.YtlbfpjhnpnbikaaKUx0
import Derived.Test.YtlbfpjhnpnbikaaKUx1
import Derived.Test.YtlbfpjhnpnbikaaKUx8
import Derived.Test.YtlbfpjhnpnbikaaKUx30
import Derived.Test.YtlbfpjhnpnbikaaKUx23
import Derived.Test.YtlbfpjhnpnbikaaKUx32
import Derived.Test.YtlbfpjhnpnbikaaKUx36
namespace Go.Proofs.Ytlbfpjhnpnbikaa.U
open Go.RowKit Go.Proofs.YtlbfpjhnpnbikaaW.PrintWords Go.Proofs.YtlbfpjhnpnbikaaW.PrintLast Go.Proofs.YtlbfpjhnpnbikaaW.PrintMore
attribute [local go_sem] max2_int min2_int max_two min_two max_three min_three max_four min_four
set_option linter.unusedVariables false
set_option linter.unusedSimpArgs false
theorem info_pair : (Try.prog.info? 50).map (·.size) = some 3 := by kernel_rfl
theorem results_pair {P : Program} {fn : Func} {p u : Tmp} {ty : TypeId} (h : fn.results = #[.cell p ty, .tmp u]) (tmps : Array Value) (w : World) (g : Nat) (t : TypeId) (cs : Array Value) (d : TypeDesc)
    (hp : tmps.getD p undef = .pointer (some ⟨g, 0, none⟩)) (hg : X.Blk w g cs t)
    (hu : P.underlying ty = some d) (hd : (match d with | .struct _ | .array _ _ => true | _ => false) = true) (hi : (P.info? ty).map (·.size) = some cs.size) :
    (results fn tmps).run P w = .ok (.tuple #[.agg cs, tmps.getD u undef]) w := by
  have hp' : tmps[p]?.getD undef = .pointer (some ⟨g, 0, none⟩) := by simpa using hp
  have hg' : w.heap[g]? = some (.cells cs t (0, 0)) := hg
  simp [results, h, hp', asAddr, run_loadVar_row w g t ty cs (0, 0) d hg' hu hd hi]
def openB (a0 a1 a2 : Int) : Bool := decide (1 ≤ a0 ∧ a0 ≤ 1024) && Pure.areaB a0.toNat a1 a2
def Opened (w0 : World) (L : List X.Res) (a0 a1 a2 : Int) (e : Ending) (w' : World) : Prop :=
  (openB a0 a1 a2 = false ∧ e = .returned (.tuple #[.agg #[.pointer none, .pointer none, .pointer none], .bool false]) ∧ X.Lies w0 w' L) ∨
  (∃ n st ln p g q g2 : Nat, a0 = (n : Int) ∧ a1 = (st : Int) ∧ a2 = (ln : Int) ∧ 1 ≤ n ∧ n ≤ 1024 ∧ Pure.areaB n (st : Int) (ln : Int) = true ∧ e = .returned (.tuple #[.agg #[.pointer (some ⟨p, 0, none⟩), .pointer (some ⟨g, 0, none⟩), .pointer (some ⟨g2, 0, none⟩)], .bool true]) ∧
    X.Lies w0 w' (.disk p n (Pure.newD n st ln) :: Pure.logP g p (Pure.newS st ln) :: .rdisk q n (Pure.newD n st ln) :: Pure.logR g2 q (Pure.newS st ln) :: L))
set_option maxHeartbeats 16000000 in
set_option maxRecDepth 100000 in
theorem undercroftlaw04_opened.part (w0 w : World) (L : List X.Res) (a0 a1 a2 : Int) (h : X.Lies w0 w L) :
    Calls Try.prog 19 #[.agg #[.int .i64 a0, .int .i64 a1, .int .i64 a2]] w (Opened w0 L a0 a1 a2) := by
  have HS := Aside0.mk h
  clear h
  go_enter Try.func19, Try.ntmps19
  go_wp2_with fail
  have e1 : ∀ (w : World) (o : Obj), (w.alloc o).heap.size = w.heap.size + 1 := fun w o => by simp
  have h1 := HS.out.alloc #[.int .i64 a0, .int .i64 a1, .int .i64 a2] 24
  have h2 := h1.alloc #[.pointer none, .pointer none, .pointer none] 50
  have h3 := h2.alloc #[.pointer none, .pointer none, .pointer none] 50
  rw [e1] at h3
  rw [e1] at h3
  obtain ⟨gp, hgp⟩ : ∃ gp, gp = w.heap.size + 1 + 1 := ⟨_, rfl⟩
  rw [← hgp] at h3 ⊢
  obtain ⟨gr, hgr⟩ : ∃ gr, gr = w.heap.size + 1 := ⟨_, rfl⟩
  rw [← hgr] at h3 ⊢
  obtain ⟨ga, hga⟩ : ∃ ga, ga = w.heap.size := ⟨_, rfl⟩
  rw [← hga] at h3 ⊢
  have HS1 := Aside0.mk h3
  clear hgp hgr hga h1 h2 h3 HS e1
  generalize World.alloc _ _ = w1 at *
  have k0_ : w1.cell? ⟨ga, 0, none⟩ = some (.int .i64 a0) := (HS1.out.boxed 2 rfl).cell 0 _ rfl
  by_cases hn : a0 < 1 ∨ 1024 < a0
  · have HF : Aside0 (openB a0 a1 a2 = false) := ⟨by unfold openB; rw [decide_eq_false (by omega), Bool.false_and]⟩
    refine (disk_New_no.calls a0 w1 hn).mono ?_
    rintro e w' ⟨rfl, rfl⟩
    go_wp2_with fail
    refine (undercroftref02_New_no.calls a0 w1 hn).mono ?_
    rintro e w' ⟨rfl, rfl⟩
    have cr0_ : w1.cell? ⟨gr, 0, none⟩ = some (.pointer none) := (HS1.out.boxed 1 rfl).cell 0 _ rfl
    have fr0_ := (HS1.out.boxed 1 rfl).free 0
    have cr1_ : w1.cell? ⟨gr, 1, none⟩ = some (.pointer none) := (HS1.out.boxed 1 rfl).cell 1 _ rfl
    have fr1_ := (HS1.out.boxed 1 rfl).free 1
    have cr2_ : w1.cell? ⟨gr, 2, none⟩ = some (.pointer none) := (HS1.out.boxed 1 rfl).cell 2 _ rfl
    have fr2_ := (HS1.out.boxed 1 rfl).free 2
    have HSy := Aside0.mk (HS1.out.perm [1] 3 (by decide) (by decide))
    have HSz := Aside0.mk (((HSy.out.set 0 (.pointer none)).set 1 (.pointer none)).set 2 (.pointer none))
    have HPR := Aside0.mk (Pure.blk_range (HS1.out.boxed 0 rfl))
    clear HSy HS1
    go_wp2_with ((with_reducible refine gate_ (.load 50 (.tmp 4)) rfl ?_); (refine wpList_load_mid rfl 50 (.tmp 4) rfl gp 0 rfl [.pointer none, .pointer none, .pointer none] _ HPR.out Try.underlying50 rfl info_pair ?_))
    (try simp only [Exit.inBlock, Exit.then])
    refine bodyPost_ret (results_pair rfl _ _ gr _ _ _ (by rfl) (HSz.out.boxed 0 rfl) Try.underlying50 rfl info_pair) rfl ?_
    exact .inl ⟨HF.out, rfl, HSz.out.tail⟩
  · obtain ⟨n, rfl⟩ := Int.eq_ofNat_of_zero_le (show 0 ≤ a0 by omega)
    have HN : Aside0 (1 ≤ n ∧ n ≤ 1024) := ⟨by omega⟩
    have HOB : Aside0 (openB (n : Int) a1 a2 = Pure.areaB n a1 a2) := ⟨by unfold openB; rw [decide_eq_true (by omega), Bool.true_and, Int.toNat_natCast]⟩
    clear hn
    refine (disk_New.part w0 w1 _ n HS1.out HN.out.1 HN.out.2).mono ?_
    rintro e w2 ⟨p, rfl, hs⟩
    have HS2 := Aside0.mk hs
    have k0_ : w2.cell? ⟨ga, 0, none⟩ = some (.int .i64 (n : Int)) := (hs.boxed 3 rfl).cell 0 _ rfl
    clear hs HS1
    go_wp2_with fail
    refine (undercroftref02_New.calls w0 w2 _ n HS2.out HN.out.1 HN.out.2).mono ?_
    rintro e w3 ⟨q, rfl, hs⟩
    have HS3 : Aside0 (X.Lies w0 w3 (.disk p n (Pure.zerosD n) :: .rdisk q n (Pure.zerosD n) :: .box gp #[.pointer none, .pointer none, .pointer none] 50 :: .box gr #[.pointer none, .pointer none, .pointer none] 50 :: .box ga #[.int .i64 (n : Int), .int .i64 a1, .int .i64 a2] 24 :: L)) := ⟨hs.swap⟩
    have k1_ : w3.cell? ⟨ga, 1, none⟩ = some (.int .i64 a1) := (HS3.out.boxed 4 rfl).cell 1 _ rfl
    have k2_ : w3.cell? ⟨ga, 2, none⟩ = some (.int .i64 a2) := (HS3.out.boxed 4 rfl).cell 2 _ rfl
    clear hs HS2
    go_wp2_with fail
    refine (log_Format.part w0 w3 _ p n _ a1 a2 HS3.out (show (0 : Nat) ≤ _ by decide)).mono ?_
    rintro e w4 ⟨rfl, hs⟩
    by_cases hA : Pure.areaB n a1 a2 = true
    rotate_left
    · have HF : Aside0 (openB (n : Int) a1 a2 = false) := ⟨by rw [HOB.out]; simpa using hA⟩
      rw [show Pure.fmtE n a1 a2 = 1 from if_neg hA]
      have HS4 := Aside0.mk hs
      clear hs HS3 hA
      have cr0_ : w4.cell? ⟨gr, 0, none⟩ = some (.pointer none) := (HS4.out.boxed 3 rfl).cell 0 _ rfl
      have fr0_ := (HS4.out.boxed 3 rfl).free 0
      have cr1_ : w4.cell? ⟨gr, 1, none⟩ = some (.pointer none) := (HS4.out.boxed 3 rfl).cell 1 _ rfl
      have fr1_ := (HS4.out.boxed 3 rfl).free 1
      have cr2_ : w4.cell? ⟨gr, 2, none⟩ = some (.pointer none) := (HS4.out.boxed 3 rfl).cell 2 _ rfl
      have fr2_ := (HS4.out.boxed 3 rfl).free 2
      have HSy := Aside0.mk (HS4.out.perm [3] 5 (by decide) (by decide))
      have HSz := Aside0.mk (((HSy.out.set 0 (.pointer none)).set 1 (.pointer none)).set 2 (.pointer none))
      have HPR := Aside0.mk (Pure.blk_range (HS4.out.boxed 2 rfl))
      clear HSy HS4
      go_wp2_with ((with_reducible refine gate_ (.load 50 (.tmp 4)) rfl ?_); (refine wpList_load_mid rfl 50 (.tmp 4) rfl gp 0 rfl [.pointer none, .pointer none, .pointer none] _ HPR.out Try.underlying50 rfl info_pair ?_))
      (try simp only [Exit.inBlock, Exit.then])
      refine bodyPost_ret (results_pair rfl _ _ gr _ _ _ (by rfl) (HSz.out.boxed 0 rfl) Try.underlying50 rfl info_pair) rfl ?_
      exact .inl ⟨HF.out, rfl, HSz.out.tail⟩
    rw [show Pure.fmtE n a1 a2 = 0 from if_pos hA]
    have hb := of_decide_eq_true hA
    obtain ⟨st, rfl⟩ := Int.eq_ofNat_of_zero_le hb.2.2.1
    obtain ⟨ln, rfl⟩ := Int.eq_ofNat_of_zero_le (show 0 ≤ a2 by omega)
    have HA := Aside0.mk hA
    have HS4 : Aside0 (X.Lies w0 w4 (.rdisk q n (Pure.zerosD n) :: .disk p n (Pure.newD n st ln) :: .box gp #[.pointer none, .pointer none, .pointer none] 50 :: .box gr #[.pointer none, .pointer none, .pointer none] 50 :: .box ga #[.int .i64 (n : Int), .int .i64 (st : Int), .int .i64 (ln : Int)] 24 :: L)) := ⟨hs.swap⟩
    have k1_ : w4.cell? ⟨ga, 1, none⟩ = some (.int .i64 (st : Int)) := (HS4.out.boxed 4 rfl).cell 1 _ rfl
    have k2_ : w4.cell? ⟨ga, 2, none⟩ = some (.int .i64 (ln : Int)) := (HS4.out.boxed 4 rfl).cell 2 _ rfl
    clear hs HS3 hb hA
    go_wp2_with fail
    refine (undercroftref04_Format.part w0 w4 _ q n _ (st : Int) (ln : Int) HS4.out (show (0 : Nat) ≤ _ by decide) (show (0 : Nat) ≤ _ by decide)).mono ?_
    rintro e w5 ⟨rfl, hs⟩
    rw [show Pure.fmtE n (st : Int) (ln : Int) = 0 from if_pos HA.out]
    have HS5 : Aside0 (X.Lies w0 w5 (.box gp #[.pointer none, .pointer none, .pointer none] 50 :: .disk p n (Pure.newD n st ln) :: .rdisk q n (Pure.newD n st ln) :: .box gr #[.pointer none, .pointer none, .pointer none] 50 :: .box ga #[.int .i64 (n : Int), .int .i64 (st : Int), .int .i64 (ln : Int)] 24 :: L)) := ⟨hs.perm [2, 1, 0] 3 (by decide) (by decide)⟩
    have HNO := Aside0.mk (Pure.new_opens HN.out.1 HN.out.2 HA.out)
    have HSO := Aside0.mk (Pure.new_sound HN.out.1 HN.out.2 HA.out)
    have cp0_ : w5.cell? ⟨gp, 0, none⟩ = some (.pointer none) := (HS5.out.boxed 0 rfl).cell 0 _ rfl
    have fp0_ := (HS5.out.boxed 0 rfl).free 0
    have HS6 : Aside0 (X.Lies w0 (w5.setCell ⟨gp, 0, none⟩ (.pointer (some ⟨p, 0, none⟩))) (.disk p n (Pure.newD n st ln) :: .box gp #[.pointer (some ⟨p, 0, none⟩), .pointer none, .pointer none] 50 :: .rdisk q n (Pure.newD n st ln) :: .box gr #[.pointer none, .pointer none, .pointer none] 50 :: .box ga #[.int .i64 (n : Int), .int .i64 (st : Int), .int .i64 (ln : Int)] 24 :: L)) := ⟨(HS5.out.set 0 (.pointer (some ⟨p, 0, none⟩))).swap⟩
    have k1_ : (w5.setCell ⟨gp, 0, none⟩ (.pointer (some ⟨p, 0, none⟩))).cell? ⟨ga, 1, none⟩ = some (.int .i64 (st : Int)) := (HS6.out.boxed 4 rfl).cell 1 _ rfl
    have k2_ : (w5.setCell ⟨gp, 0, none⟩ (.pointer (some ⟨p, 0, none⟩))).cell? ⟨ga, 2, none⟩ = some (.int .i64 (ln : Int)) := (HS6.out.boxed 4 rfl).cell 2 _ rfl
    clear hs HS4 HS5
    go_wp2_with fail
    clear cp0_ fp0_ k1_ k2_
    refine (log_Open.part w0 _ _ p n _ (st : Int) (ln : Int) HS6.out).mono ?_
    rintro e w7 ⟨v, rfl, hv⟩
    rcases hv with ⟨h1, -⟩ | ⟨-, g, rfl, hs⟩
    · exact absurd HNO.out.1 h1
    rw [HNO.out.1]
    rw [HNO.out.2] at hs
    have HS7 : Aside0 (X.Lies w0 w7 (.box gp #[.pointer (some ⟨p, 0, none⟩), .pointer none, .pointer none] 50 :: Pure.logP g p (Pure.newS st ln) :: .disk p n (Pure.newD n st ln) :: .rdisk q n (Pure.newD n st ln) :: .box gr #[.pointer none, .pointer none, .pointer none] 50 :: .box ga #[.int .i64 (n : Int), .int .i64 (st : Int), .int .i64 (ln : Int)] 24 :: L)) := ⟨hs.perm [2, 0, 1] 3 (by decide) (by decide)⟩
    have cp1_ : w7.cell? ⟨gp, 1, none⟩ = some (.pointer none) := (HS7.out.boxed 0 rfl).cell 1 _ rfl
    have fp1_ := (HS7.out.boxed 0 rfl).free 1
    have HS8 : Aside0 (X.Lies w0 (w7.setCell ⟨gp, 1, none⟩ (.pointer (some ⟨g, 0, none⟩))) (.rdisk q n (Pure.newD n st ln) :: .box gp #[.pointer (some ⟨p, 0, none⟩), .pointer (some ⟨g, 0, none⟩), .pointer none] 50 :: Pure.logP g p (Pure.newS st ln) :: .disk p n (Pure.newD n st ln) :: .box gr #[.pointer none, .pointer none, .pointer none] 50 :: .box ga #[.int .i64 (n : Int), .int .i64 (st : Int), .int .i64 (ln : Int)] 24 :: L)) := ⟨(HS7.out.set 1 (.pointer (some ⟨g, 0, none⟩))).perm [3, 0, 1, 2] 4 (by decide) (by decide)⟩
    have k1_ : (w7.setCell ⟨gp, 1, none⟩ (.pointer (some ⟨g, 0, none⟩))).cell? ⟨ga, 1, none⟩ = some (.int .i64 (st : Int)) := (HS8.out.boxed 5 rfl).cell 1 _ rfl
    have k2_ : (w7.setCell ⟨gp, 1, none⟩ (.pointer (some ⟨g, 0, none⟩))).cell? ⟨ga, 2, none⟩ = some (.int .i64 (ln : Int)) := (HS8.out.boxed 5 rfl).cell 2 _ rfl
    clear hs HS6 HS7
    go_wp2_with fail
    clear cp1_ fp1_ k1_ k2_
    refine (undercroftref04_Open.part w0 _ _ q n _ (st : Int) (ln : Int) HS8.out (by have := HSO.out.pend; omega) (by rw [HSO.out.free.gho]; decide)).mono ?_
    rintro e w9 ⟨v, rfl, hv⟩
    rcases hv with ⟨h1, -⟩ | ⟨-, g2, rfl, hs⟩
    · exact absurd HNO.out.1 h1
    rw [HNO.out.1]
    rw [HNO.out.2] at hs
    have HS9 : Aside0 (X.Lies w0 w9 (.box gp #[.pointer (some ⟨p, 0, none⟩), .pointer (some ⟨g, 0, none⟩), .pointer none] 50 :: Pure.logR g2 q (Pure.newS st ln) :: .rdisk q n (Pure.newD n st ln) :: Pure.logP g p (Pure.newS st ln) :: .disk p n (Pure.newD n st ln) :: .box gr #[.pointer none, .pointer none, .pointer none] 50 :: .box ga #[.int .i64 (n : Int), .int .i64 (st : Int), .int .i64 (ln : Int)] 24 :: L)) := ⟨hs.perm [2, 0, 1] 3 (by decide) (by decide)⟩
    have cp2_ : w9.cell? ⟨gp, 2, none⟩ = some (.pointer none) := (HS9.out.boxed 0 rfl).cell 2 _ rfl
    have fp2_ := (HS9.out.boxed 0 rfl).free 2
    have HS10 : Aside0 (X.Lies w0 (w9.setCell ⟨gp, 2, none⟩ (.pointer (some ⟨g2, 0, none⟩))) (.box gr #[.pointer none, .pointer none, .pointer none] 50 :: .box gp #[.pointer (some ⟨p, 0, none⟩), .pointer (some ⟨g, 0, none⟩), .pointer (some ⟨g2, 0, none⟩)] 50 :: .disk p n (Pure.newD n st ln) :: Pure.logP g p (Pure.newS st ln) :: .rdisk q n (Pure.newD n st ln) :: Pure.logR g2 q (Pure.newS st ln) :: L)) := ⟨(HS9.out.set 2 (.pointer (some ⟨g2, 0, none⟩))).perm [5, 0, 4, 3, 2, 1] 7 (by decide) (by decide)⟩
    clear hs HS8 HS9
    go_wp2_with fail
    clear cp2_ fp2_
    generalize World.setCell _ _ _ = w10 at *
    refine start_ (n := 11) (S := (fun w' => X.Blk w' gp #[.pointer (some ⟨p, 0, none⟩), .pointer (some ⟨g, 0, none⟩), .pointer (some ⟨g2, 0, none⟩)] 50)) (ds := []) #[false, false, false, false, false, false, false, false, false, false, false] (by kernel_rfl) rfl rfl (HS10.out.drew.boxed 1 rfl) (fun hHeld => ?_)
    have HSa := Aside0.mk (HS10.out.drew)
    generalize World.drew _ = wa at *
    clear HS10
    refine take_ (i := 0) (N := some 67) (v := .agg #[.pointer (some ⟨p, 0, none⟩), .pointer (some ⟨g, 0, none⟩), .pointer (some ⟨g2, 0, none⟩)]) (a' := ?_) #[true, false, false, false, false, false, false, false, false, false, false] rfl rfl (by kernel_rfl) (fun _ _ _ h => h) (Or.inl ⟨by rfl, ?_⟩) hHeld ?_ ?_
    · intro w' hs_
      exact X.load_exec 50 (.tmp 4) (by rfl) gp 0 (by rfl) [.pointer (some ⟨p, 0, none⟩), .pointer (some ⟨g, 0, none⟩), .pointer (some ⟨g2, 0, none⟩)] _ (Pure.blk_range hs_) Try.underlying50 rfl info_pair
    rotate_left
    · simp only [Act.put, List.setIfInBounds_toArray, List.set_cons_zero, List.set_cons_succ, i64_w, i32_w]
      rfl
    refine pure_ (i := 1) (N := some 68) (v := ?_) (a' := ?_) #[true, true, false, false, false, false, false, false, false, false, false] rfl rfl (by kernel_rfl) (fun _ _ _ h => h) (Or.inl ⟨by rfl, ?_⟩) ?_ ?_
    rotate_left
    · intro w'
      go_simp
      with_reducible rfl
    rotate_left
    · simp only [Act.put, List.setIfInBounds_toArray, List.set_cons_zero, List.set_cons_succ, i64_w, i32_w]
      rfl
    refine take_ (i := 2) (N := some 69) (v := .pointer (some ⟨g, 0, none⟩)) (a' := ?_) #[true, true, true, false, false, false, false, false, false, false, false] rfl rfl (by kernel_rfl) (fun _ _ _ h => h) (Or.inl ⟨by rfl, ?_⟩) hHeld ?_ ?_
    · intro w' hs_
      exact (by have x_ : w'.cell? ⟨gp, 1, none⟩ = some (.pointer (some ⟨g, 0, none⟩)) := hs_.cell 1 _ rfl; go_simp; done)
    rotate_left
    · simp only [Act.put, List.setIfInBounds_toArray, List.set_cons_zero, List.set_cons_succ, i64_w, i32_w]
      rfl
    refine pure_ (i := 3) (N := some 70) (v := .bool true) (a' := ?_) #[true, true, true, true, false, false, false, false, false, false, false] rfl rfl (by kernel_rfl) (fun _ _ _ h => h) (Or.inl ⟨by rfl, ?_⟩) ?_ ?_
    · intro w'
      exact (by go_simp; first | done | (rw [i64_w]; assumption))
    rotate_left
    · simp only [Act.put, List.setIfInBounds_toArray, List.set_cons_zero, List.set_cons_succ, i64_w, i32_w]
      rfl
    refine pure_ (i := 4) (N := some 71) (v := .bool true) (a' := ?_) #[true, true, true, true, true, false, false, false, false, false, false] rfl rfl (by kernel_rfl) (fun _ _ _ h => h) (Or.inl ⟨by rfl, ?_⟩) ?_ ?_
    · intro w'
      exact (by go_simp; first | done | (rw [i64_w]; assumption))
    rotate_left
    · simp only [Act.put, List.setIfInBounds_toArray, List.set_cons_zero, List.set_cons_succ, i64_w, i32_w]
      rfl
    refine pure_ (i := 5) (N := some 72) (v := ?_) (a' := ?_) #[true, true, true, true, true, true, false, false, false, false, false] rfl rfl (by kernel_rfl) (fun _ _ _ h => h) (Or.inl ⟨by rfl, ?_⟩) ?_ ?_
    rotate_left
    · intro w'
      go_simp
      with_reducible rfl
    rotate_left
    · simp only [Act.put, List.setIfInBounds_toArray, List.set_cons_zero, List.set_cons_succ, i64_w, i32_w]
      rfl
    refine take_ (i := 6) (N := some 73) (v := .pointer (some ⟨g2, 0, none⟩)) (a' := ?_) #[true, true, true, true, true, true, true, false, false, false, false] rfl rfl (by kernel_rfl) (fun _ _ _ h => h) (Or.inl ⟨by rfl, ?_⟩) hHeld ?_ ?_
    · intro w' hs_
      exact (by have x_ : w'.cell? ⟨gp, 2, none⟩ = some (.pointer (some ⟨g2, 0, none⟩)) := hs_.cell 2 _ rfl; go_simp; done)
    rotate_left
    · simp only [Act.put, List.setIfInBounds_toArray, List.set_cons_zero, List.set_cons_succ, i64_w, i32_w]
      rfl
    refine pure_ (i := 7) (N := some 74) (v := .bool true) (a' := ?_) #[true, true, true, true, true, true, true, true, false, false, false] rfl rfl (by kernel_rfl) (fun _ _ _ h => h) (Or.inl ⟨by rfl, ?_⟩) ?_ ?_
    · intro w'
      exact (by go_simp; first | done | (rw [i64_w]; assumption))
    rotate_left
    · simp only [Act.put, List.setIfInBounds_toArray, List.set_cons_zero, List.set_cons_succ, i64_w, i32_w]
      rfl
    refine pure_ (i := 8) (N := some 75) (v := .bool true) (a' := ?_) #[true, true, true, true, true, true, true, true, true, false, false] rfl rfl (by kernel_rfl) (fun _ _ _ h => h) (Or.inl ⟨by rfl, ?_⟩) ?_ ?_
    · intro w'
      exact (by go_simp; first | done | (rw [i64_w]; assumption))
    rotate_left
    · simp only [Act.put, List.setIfInBounds_toArray, List.set_cons_zero, List.set_cons_succ, i64_w, i32_w]
      rfl
    refine one_ (i := 9) (N := none) #[true, true, true, true, true, true, true, true, true, true, false] rfl rfl (by kernel_rfl) (by decide) (fun K hK => ?_)
    have c0_ : World.cell? _ ⟨gr, 0, none⟩ = some (.pointer none) := (X.Lies.boxed HSa.out 0 rfl).cell 0 _ rfl
    have f0_ := (X.Lies.boxed HSa.out 0 rfl).free 0
    have c1_ : World.cell? _ ⟨gr, 1, none⟩ = some (.pointer none) := (X.Lies.boxed HSa.out 0 rfl).cell 1 _ rfl
    have f1_ := (X.Lies.boxed HSa.out 0 rfl).free 1
    have c2_ : World.cell? _ ⟨gr, 2, none⟩ = some (.pointer none) := (X.Lies.boxed HSa.out 0 rfl).cell 2 _ rfl
    have f2_ := (X.Lies.boxed HSa.out 0 rfl).free 2
    refine skip_ (w1 := ?_) (by rfl) rfl ?_ ?_
    rotate_left
    · go_simp
      rfl
    have HSz := Aside0.mk (X.Lies.set (X.Lies.set (X.Lies.set HSa.out 0 (.pointer (some ⟨p, 0, none⟩))) 1 (.pointer (some ⟨g, 0, none⟩))) 2 (.pointer (some ⟨g2, 0, none⟩)))
    clear c0_ f0_ c1_ f1_ c2_ f2_ hHeld
    refine hK.out _ _ (HSz.out.boxed 1 rfl) (fun hHeld => ?_)
    clear hK K
    refine pure_ (i := 10) (N := some 3) (v := ?_) (a' := ?_) #[true, true, true, true, true, true, true, true, true, true, true] rfl rfl (by kernel_rfl) (fun _ _ _ h => h) (Or.inl ⟨by rfl, ?_⟩) ?_ ?_
    rotate_left
    · intro w'
      go_simp
      with_reducible rfl
    rotate_left
    · simp only [Act.put, List.setIfInBounds_toArray, List.set_cons_zero, List.set_cons_succ, i64_w, i32_w]
      rfl
    clear HSa
    refine done_ (by kernel_rfl) ?_
    go_wp2
    (try simp only [Exit.inBlock, Exit.then])
    refine bodyPost_ret (results_pair rfl _ _ gr _ _ _ (by rfl) (HSz.out.boxed 0 rfl) Try.underlying50 rfl info_pair) rfl ?_
    exact .inr ⟨n, st, ln, p, g, q, g2, rfl, rfl, rfl, HN.out.1, HN.out.2, HA.out, rfl, HSz.out.tail.tail⟩
end Go.Proofs.Ytlbfpjhnpnbikaa.U
