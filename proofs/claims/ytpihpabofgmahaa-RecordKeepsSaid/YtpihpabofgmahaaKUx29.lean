/- Ux29: what this claim uses. Laid by slim.py (ours). -/
import Derived.Test.YtpihpabofgmahaaKPRecD
import Derived.Test.YtpihpabofgmahaaKPRecA
import Derived.Test.YtpihpabofgmahaaKUx0
import Derived.Test.YtpihpabofgmahaaKUx7
import Derived.Test.YtpihpabofgmahaaKUx12
import Derived.Test.YtpihpabofgmahaaKUx14
namespace Go.Proofs.Ytpihpabofgmahaa.U
open Go.RowKit Go.Proofs.YtpihpabofgmahaaW.PrintWords Go.Proofs.YtpihpabofgmahaaW.PrintLast Go.Proofs.YtpihpabofgmahaaW.PrintMore
attribute [local go_sem] max2_int min2_int max_two min_two max_three min_three max_four min_four
set_option linter.unusedVariables false
set_option linter.unusedSimpArgs false
def undercroftlaw03_RecordKeeps.f (a : Int) (ws : List S43) (rs : List Int) : Option Bool := if Pure.recB a ws rs = true then some true else none
def Done (i : Nat) (ws : List S43) : Prop := ∀ (j : Nat) (x : S43), ws[j]? = some x → (j < i → x.f1 = List.replicate 256 (j : Int) ++ [1, 2]) ∧ (i ≤ j → x.f1.length = 256)
theorem take_step {zs : List Int} {k : Nat} {v : Int} (h : zs.take k = List.replicate k v) (hk : k < zs.length) : (zs.set k v).take (k + 1) = List.replicate (k + 1) v := by
  rw [List.take_succ_eq_append_getElem (by rw [List.length_set]; exact hk), List.getElem_set_self, List.take_set_of_le (Nat.le_refl k), h, List.replicate_succ']
theorem done_step {i : Nat} {ws : List S43} {b : Int} {ys : List Int} (h : Done i ws) (hy : ys = List.replicate 256 (i : Int) ++ [1, 2]) : Done (i + 1) (ws.set i ⟨b, ys⟩) := by
  intro j x hj
  by_cases hij : i = j
  · subst hij
    have hlt : i < ws.length := by have := (List.getElem?_eq_some_iff.1 hj).1; rwa [List.length_set] at this
    rw [List.getElem?_set_self hlt] at hj
    injection hj with hj
    subst hj
    exact ⟨fun _ => hy, fun h => absurd h (by omega)⟩
  · rw [List.getElem?_set_ne hij] at hj
    have := h j x hj
    exact ⟨fun h => this.1 (by omega), fun h => this.2 (by omega)⟩
set_option maxHeartbeats 8000000 in
set_option maxRecDepth 100000 in
theorem undercroftlaw03_RecordKeeps.calls (a0_0 : Int) (A0_1 : Option Addr) (c0_1 : Nat) (l0_1 : List S43) (A0_2 : Option Addr) (c0_2 : Nat) (l0_2 : List Int) (r : Bool) (w : World) (hr0_1 : Kd.C k43 w A0_1 l0_1.length l0_1) (hc0_1 : l0_1.length ≤ c0_1) (hr0_2 : Kd.C (Kd.int .i64) w A0_2 l0_2.length l0_2) (hc0_2 : l0_2.length ≤ c0_2) (h : undercroftlaw03_RecordKeeps.f a0_0 l0_1 l0_2 = some r) :
    Calls Try.prog 8 #[.agg #[.int .u64 a0_0, .slice A0_1 l0_1.length c0_1, .slice A0_2 l0_2.length c0_2]] w fun e w' => e = .returned (.bool r) ∧ Below w.heap.size w w' := by
  unfold undercroftlaw03_RecordKeeps.f at h
  by_cases hok : Pure.recB a0_0 l0_1 l0_2 = true
  rotate_left
  · rw [if_neg hok] at h
    cases h
  rw [if_pos hok] at h
  obtain rfl := Option.some.inj h
  clear h
  have HC := Aside0.mk (Pure.recB_iff.1 hok)
  have HR1 : Aside0 (∀ w', Below w.heap.size w w' → Kd.C k43 w' A0_1 l0_1.length l0_1) := ⟨fun w' hb => Kd.C_below hr0_1 hb⟩
  have HR2 : Aside0 (∀ w', Below w.heap.size w w' → Kd.C (Kd.int .i64) w' A0_2 l0_2.length l0_2) := ⟨fun w' hb => Kd.C_below hr0_2 hb⟩
  have HC1 := Aside0.mk hc0_1
  have HC2 := Aside0.mk hc0_2
  have HS0 := Aside0.mk ((X.Lies.start w).alloc #[.int .u64 a0_0, .slice A0_1 l0_1.length c0_1, .slice A0_2 l0_2.length c0_2] 26)
  clear hok hr0_1 hr0_2 hc0_1 hc0_2
  go_enter Try.func8, Try.ntmps8
  go_wp2_with fail
  refine (undercroftlaw03_alive.calls true _ Pure.alive_true rfl).mono ?_
  rintro e w2 ⟨rfl, hb⟩
  have HS2 := Aside0.mk (HS0.out.grow hb)
  clear hb HS0
  obtain ⟨gx, hgx⟩ : ∃ gx, gx = w.heap.size := ⟨_, rfl⟩
  rw [← hgx] at HS2 ⊢
  clear hgx
  go_wp2_with ((with_reducible refine gate_ (.load 26 (.tmp 1)) rfl ?_); (refine wpList_load_mid rfl 26 (.tmp 1) rfl gx 0 rfl [.int .u64 a0_0, .slice A0_1 l0_1.length c0_1, .slice A0_2 l0_2.length c0_2] _ (Pure.blk_range (HS2.out.boxed 0 rfl)) Try.underlying26 rfl Pure.info_txn ?_))
  refine (Pure.Encode_part w w2 _ a0_0 A0_1 c0_1 l0_1 A0_2 c0_2 l0_2 HS2.out (HR1.out _ HS2.out.below) HC1.out (HR2.out _ HS2.out.below) HC2.out HC.out).mono ?_
  rintro e w3 ⟨B, d, rfl, hs⟩
  by_cases hm : mayB l0_1 l0_2 = true
  rotate_left
  · rw [show Pure.encR a0_0 l0_1 l0_2 = [] from if_neg hm, show Pure.encE l0_1 l0_2 = 17 from if_neg hm]
    have HBL := Aside0.mk hs.below
    clear hs hm HS2
    go_wp2
    go_ret
    exact ⟨rfl, HBL.out⟩
  have HME : Aside0 (Pure.encR a0_0 l0_1 l0_2 = encL a0_0 l0_1 l0_2 ∧ Pure.encE l0_1 l0_2 = 0) := ⟨if_pos hm, if_pos hm⟩
  rw [HME.out.1] at hs ⊢
  rw [HME.out.2]
  have HS3 := Aside0.mk hs
  have HLE := Aside0.mk (Pure.encL_length (seq := a0_0) hm)
  have HLI := Aside0.mk (Pure.encL_le (a := a0_0) hm)
  have HUX := Aside0.mk (Pure.encL_u8 (seq := a0_0) (rs := l0_2) HC.out.data)
  have HMF := Aside0.mk (Pure.may_facts hm)
  have HDX : Aside0 (Pure.decOf (encL a0_0 l0_1 l0_2) a0_0 = (a0_0, l0_1, l0_2, ((l0_1.length + 2 : Nat) : Int), true)) := ⟨by have := Pure.dec_enc (a := a0_0) hm HC.out.data []; rwa [List.append_nil] at this⟩
  obtain ⟨xs, hxs⟩ : ∃ xs, xs = encL a0_0 l0_1 l0_2 := ⟨_, rfl⟩
  rw [← hxs] at HS3 HLE HLI HUX HDX HME ⊢
  clear hs hm hxs HS2
  obtain ⟨Og, hOg⟩ := HS3.out.rowed 0 rfl
  obtain ⟨-, hd, hCx⟩ := Kd.R_reads' hOg
  obtain ⟨gb, d', e1, -⟩ := Kd.R_form hOg (by have := HLE.out; omega)
  obtain ⟨rfl, -, rfl⟩ := Value.slice.inj e1
  clear hOg e1
  have HD := Aside0.mk hd
  have HCX := Aside0.mk hCx
  have x0_ := (HS3.out.boxed 1 rfl).cell 0 _ rfl
  clear hd hCx
  go_wp2_with fail
  refine (Pure.Decode_part w w3 _ (some ⟨gb, 0, none⟩) d xs a0_0 HS3.out HCX.out HD.out HUX.out (by have := HLI.out; omega)).mono ?_
  rw [HDX.out]
  rintro e w5 ⟨C1, e1, C2, e2, l, rfl, hl, hs⟩
  have HS5 := Aside0.mk ((hs.alloc #[.int .u64 a0_0, .slice C1 l0_1.length e1, .slice C2 l0_2.length e2] 26).perm [3, 0, 1, 2, 4] 5 (by decide) (by decide))
  have HL5 := Aside0.mk hl
  clear hs hl HS3 x0_ HCX HDX
  go_wp2_with fail
  go_loopg [8] xs.length (fun gk v8_ w' => ∃ (i : Nat) (ys : List Int), v8_ = .int .i64 (i : Int) ∧ Aside0 (gk + i = xs.length) ∧ Aside0 (ys.length = xs.length) ∧ Aside0 (X.Lies w w' [.row (Kd.int .u8) 5 (.slice (some ⟨gb, 0, none⟩) xs.length d) ys, .box w5.heap.size #[.int .u64 a0_0, .slice C1 l0_1.length e1, .slice C2 l0_2.length e2] 26, .wown (.slice C1 l0_1.length e1) l, .row (Kd.int .i64) 3 (.slice C2 l0_2.length e2) l0_2, .box gx #[.int .u64 a0_0, .slice A0_1 l0_1.length c0_1, .slice A0_2 l0_2.length c0_2] 26]))
  case atStart => exact ⟨0, xs, rfl, ⟨by omega⟩, ⟨rfl⟩, HS5⟩
  case round =>
    clear HS5
    obtain ⟨i, ys, rfl, HK, HYL, HS5⟩ := hrel
    by_cases hlt : i < xs.length
    · have q3 : decide ((i : Int) < (xs.length : Int)) = true := decide_eq_true (by omega)
      have q33 : decide (i < xs.length) = true := decide_eq_true hlt
      obtain ⟨z, hz⟩ : ∃ z, ys[i]? = some z := ⟨_, List.getElem?_eq_getElem (by rw [HYL.out]; exact hlt)⟩
      obtain ⟨c0_, c00_⟩ := HS5.out.cellRow (enc := Value.int .u8) (h1 := fun _ => rfl) 0 rfl hz
      have HS6 := Aside0.mk ((show X.Lies w wr (.row (Kd.scalar (Value.int .u8) (fun _ => rfl)) 5 (.slice (some ⟨gb, 0, none⟩) xs.length d) ys :: _) from HS5.out).putRow i (Go.bits .xor .u8 z 255))
      have HX6 : Aside0 ((ys.set i (Go.bits .xor .u8 z 255)).length = xs.length) := ⟨by rw [List.length_set]; exact HYL.out⟩
      clear HS5 HYL hz
      go_wp2_with fail
      cases gk with
      | zero => exact absurd HK.out (by omega)
      | succ k1 =>
        go_roundg k1
        case measure => omega
        case rel => exact ⟨i + 1, _, by have := HLI.out; rw [show wrap64 ((i : Int) + 1) = ((i + 1 : Nat) : Int) from by unfold wrap64; omega], ⟨by have := HK.out; omega⟩, HX6, HS6⟩
    · have q3 : decide ((i : Int) < (xs.length : Int)) = false := decide_eq_false (by omega)
      have q33 : decide (i < xs.length) = false := decide_eq_false hlt
      have x0_ := (HS5.out.boxed 1 rfl).cell 0 _ rfl
      have x1_ := (HS5.out.boxed 1 rfl).cell 1 _ rfl
      have x2_ := (HS5.out.boxed 1 rfl).cell 2 _ rfl
      have y0_ := (HS5.out.boxed 4 rfl).cell 0 _ rfl
      have y1_ := (HS5.out.boxed 4 rfl).cell 1 _ rfl
      have y2_ := (HS5.out.boxed 4 rfl).cell 2 _ rfl
      have HS6 := HS5
      clear HK hlt HS5 HYL
      go_wp2_with fail
      obtain ⟨-, g1, gC1, -⟩ := Pure.wown_S HS6.out 2 rfl HL5.out
      have r1 := HS6.out.rowC 3 rfl
      refine (Pure.Same_part w wr _ a0_0 C1 e1 l0_1 C2 e2 l0_2 a0_0 A0_1 c0_1 l0_1 A0_2 c0_2 l0_2 HS6.out gC1 g1 r1.1 r1.2.1 (HR1.out _ HS6.out.below) HC1.out (HR2.out _ HS6.out.below) HC2.out HC.out.data HC.out.data).mono ?_
      rintro e w6 ⟨rfl, hs⟩
      have HS7 := Aside0.mk (hs.sel [2, 1, 4] (by decide))
      rw [show decide (a0_0 = a0_0 ∧ l0_1 = l0_1 ∧ l0_2 = l0_2) = true from decide_eq_true ⟨rfl, rfl, rfl⟩]
      clear hs g1 gC1 r1 x0_ x1_ x2_ y0_ y1_ y2_ HS6
      obtain ⟨bx, hbx⟩ : ∃ bx, bx = w5.heap.size := ⟨_, rfl⟩
      rw [← hbx] at HS7 ⊢
      clear hbx
      go_wp2_with fail
      go_loopg [9, 10] l0_1.length (fun gk v9_ v10_ w' => ∃ (i : Nat) (l : List (Int × Value × List Int)) (ws : List S43), v9_ = .int .i64 (i : Int) ∧ Aside0 (gk + i = l0_1.length) ∧ Aside0 (ws.length = l0_1.length ∧ Pure.prs ws = l.map fun x => (x.1, x.2.2)) ∧ Aside0 (Done i ws) ∧
        Aside0 (X.Lies w w' [.wown (.slice C1 l0_1.length e1) l, .box bx #[.int .u64 a0_0, .slice C1 l0_1.length e1, .slice C2 l0_2.length e2] 26, .box gx #[.int .u64 a0_0, .slice A0_1 l0_1.length c0_1, .slice A0_2 l0_2.length c0_2] 26]))
      case atStart => exact ⟨0, l, l0_1, rfl, ⟨by omega⟩, ⟨rfl, HL5.out⟩, ⟨fun j x hj => ⟨fun h => absurd h (by omega), fun _ => HMF.out.2.1 x (List.mem_of_getElem? hj)⟩⟩, HS7⟩
      case round =>
        clear HS7
        obtain ⟨i, l, ws, rfl, HK, HL, HDN, HS⟩ := hrel
        by_cases hlt : i < l0_1.length
        · have q0 : decide ((i : Int) < (l0_1.length : Int)) = true := decide_eq_true (by omega)
          have q00 : decide (i < l0_1.length) = true := decide_eq_true hlt
          have x1_ := (HS.out.boxed 1 rfl).cell 1 _ rfl
          obtain ⟨-, -, -, hg⟩ := Pure.wown_S HS.out 0 rfl HL.out.2
          obtain ⟨g, rfl⟩ := hg (by have := HL.out; omega)
          obtain ⟨x, u, hwx, hlx⟩ := Pure.prs_at HL.out.2 (i := i) (by have := HL.out; omega)
          obtain ⟨-, -, Au, cu, rfl, hcu, hCu⟩ := HS.out.wcell hlx
          have HXL := Aside0.mk ((HDN.out i x hwx).2 (Nat.le_refl i))
          have HWX := Aside0.mk hwx
          have HLX := Aside0.mk hlx
          have hpp := HS.out.wget hlx
          obtain ⟨O, hO⟩ := hpp.rowed 0 rfl
          obtain ⟨gu, cu', e3, -⟩ := Kd.R_form hO (by have := HXL.out; omega)
          obtain ⟨rfl, -, rfl⟩ := Value.slice.inj e3
          have HPP := Aside0.mk hpp
          clear hwx hlx hg e3 hO hpp hCu HS hcu
          obtain ⟨b, hb⟩ : ∃ b, b = x.f0 := ⟨_, rfl⟩
          obtain ⟨ys, hys⟩ : ∃ ys, ys = x.f1 := ⟨_, rfl⟩
          rw [← hb, ← hys] at HLX
          rw [← hys] at HXL HPP
          rw [HXL.out] at HPP
          obtain ⟨g1, rfl⟩ : ∃ m, gk = m + 1 := ⟨gk - 1, by have := HK.out; omega⟩
          go_wp2_with fail
          clear x1_
          go_loopg [10] 256 (fun gk2 v10_ w' => ∃ (k : Nat) (zs : List Int), v10_ = .int .i64 (k : Int) ∧ Aside0 (gk2 + k = 256) ∧ Aside0 (zs.length = 256 ∧ zs.take k = List.replicate k (i : Int)) ∧
            Aside0 (X.Lies w w' (.row (Kd.int .u8) 5 (.slice (some ⟨gu, 0, none⟩) 256 cu) zs :: .sep ((l.map fun x => .row (Kd.int .u8) 5 x.2.1 x.2.2).set i .emp) :: .row (Kd.raw 2) 43 (.slice (some ⟨g, 0, none⟩) l0_1.length e1) (l.map fun x => [.int .i64 x.1, x.2.1]) :: [.box bx #[.int .u64 a0_0, .slice (some ⟨g, 0, none⟩) l0_1.length e1, .slice C2 l0_2.length e2] 26, .box gx #[.int .u64 a0_0, .slice A0_1 l0_1.length c0_1, .slice A0_2 l0_2.length c0_2] 26])))
          case atStart => exact ⟨0, ys, rfl, ⟨by omega⟩, ⟨HXL.out, rfl⟩, HPP⟩
          case round =>
            clear HPP
            obtain ⟨k, zs, rfl, HK2, HZL, HPP⟩ := hrel
            have x1_ := (HPP.out.boxed 3 rfl).cell 1 _ rfl
            have y1_ := ((HPP.out.rawAt 2 rfl (i := i) (cs := [.int .i64 b, .slice (some ⟨gu, 0, none⟩) 256 cu]) (by rw [List.getElem?_map, HLX.out]; show some [Value.int .i64 b, Value.slice _ ys.length _] = _; rw [HXL.out])).2.2 1 _ rfl).1
            by_cases hlk : k < 256
            · have q1 : decide ((k : Int) < 256) = true := decide_eq_true (by omega)
              have q11 : decide (k < 256) = true := decide_eq_true hlk
              obtain ⟨z, hz⟩ : ∃ z, zs[k]? = some z := ⟨_, List.getElem?_eq_getElem (by rw [HZL.out.1]; exact hlk)⟩
              obtain ⟨c0_, c00_⟩ := HPP.out.cellRow (enc := Value.int .u8) (h1 := fun _ => rfl) 0 rfl hz
              have hu8 : IntKind.u8.wrap (i : Int) = (i : Int) := by have := HMF.out.1; simp [IntKind.wrap, IntKind.bits, IntKind.signed]; omega
              have HP6 := Aside0.mk ((show X.Lies w _ (.row (Kd.scalar (Value.int .u8) (fun _ => rfl)) 5 (.slice (some ⟨gu, 0, none⟩) 256 cu) zs :: _) from HPP.out).putRow k (i : Int))
              have HZ6 : Aside0 ((zs.set k (i : Int)).length = 256 ∧ (zs.set k (i : Int)).take (k + 1) = List.replicate (k + 1) (i : Int)) := ⟨by rw [List.length_set]; exact HZL.out.1, take_step HZL.out.2 (by rw [HZL.out.1]; exact hlk)⟩
              clear HPP hz HZL
              go_wp2_with fail
              cases gk with
              | zero => exact absurd HK2.out (by omega)
              | succ k2 =>
                go_roundg k2
                case measure => omega
                case rel => exact ⟨k + 1, _, by rfl, ⟨by have := HK2.out; omega⟩, HZ6, HP6⟩
            · have q1 : decide ((k : Int) < 256) = false := decide_eq_false (by omega)
              have q11 : decide (k < 256) = false := decide_eq_false hlk
              obtain rfl : k = 256 := by have := HK2.out; omega
              have HZF : Aside0 (zs = List.replicate 256 (i : Int)) := ⟨by rw [← HZL.out.2, List.take_of_length_le (by rw [HZL.out.1]; exact Nat.le_refl _)]⟩
              clear HK2 hlk
              go_wp2_with fail
              clear x1_ y1_
              refine start_ (n := 14) (S := (fun w' => w'.cell? ⟨bx, 1, none⟩ = some (.slice (some ⟨g, 0, none⟩) l0_1.length e1) ∧ w'.cell? ⟨g, i * 2 + 1, none⟩ = some (.slice (some ⟨gu, 0, none⟩) 256 cu))) (ds := [13]) #[false, false, false, false, false, false, false, false, false, false, false, false, false, false] (by kernel_rfl) rfl rfl ⟨(HPP.out.drew.boxed 3 rfl).cell 1 _ rfl, ((HPP.out.drew.rawAt 2 rfl (i := i) (cs := [.int .i64 b, .slice (some ⟨gu, 0, none⟩) 256 cu]) (by rw [List.getElem?_map, HLX.out]; show some [Value.int .i64 b, Value.slice _ ys.length _] = _; rw [HXL.out])).2.2 1 _ rfl).1⟩ (fun hHeld => ?_)
              have HSa := Aside0.mk (HPP.out.drew)
              generalize World.drew _ = wa at *
              clear HPP
              refine pure_ (i := 0) (N := some 84) (v := ?_) (a' := ?_) #[true, false, false, false, false, false, false, false, false, false, false, false, false, false] rfl rfl (by kernel_rfl) (fun _ _ _ h => h) (Or.inl ⟨by rfl, ?_⟩) ?_ ?_
              rotate_left
              · intro w'
                go_simp
                with_reducible rfl
              rotate_left
              · simp only [Act.put, List.setIfInBounds_toArray, List.set_cons_zero, List.set_cons_succ, i64_w, i32_w]
                rfl
              refine take_ (i := 1) (N := some 85) (v := ?_) (a' := ?_) #[true, true, false, false, false, false, false, false, false, false, false, false, false, false] rfl rfl (by kernel_rfl) (fun _ _ _ h => h) (Or.inl ⟨by rfl, ?_⟩) hHeld ?_ ?_
              rotate_left
              · intro w' hs_
                obtain ⟨hs0, hs1⟩ := hs_
                go_simp
                with_reducible rfl
              rotate_left
              · simp only [Act.put, List.setIfInBounds_toArray, List.set_cons_zero, List.set_cons_succ, i64_w, i32_w]
                rfl
              refine pure_ (i := 2) (N := some 86) (v := ?_) (a' := ?_) #[true, true, true, false, false, false, false, false, false, false, false, false, false, false] rfl rfl (by kernel_rfl) (fun _ _ _ h => h) (Or.inl ⟨by rfl, ?_⟩) ?_ ?_
              rotate_left
              · intro w'
                go_simp
                with_reducible rfl
              rotate_left
              · simp only [Act.put, List.setIfInBounds_toArray, List.set_cons_zero, List.set_cons_succ, i64_w, i32_w]
                rfl
              refine pure_ (i := 3) (N := some 87) (v := ?_) (a' := ?_) #[true, true, true, true, false, false, false, false, false, false, false, false, false, false] rfl rfl (by kernel_rfl) (fun _ _ _ h => h) (Or.inl ⟨by rfl, ?_⟩) ?_ ?_
              rotate_left
              · intro w'
                go_simp
                with_reducible rfl
              rotate_left
              · simp only [Act.put, List.setIfInBounds_toArray, List.set_cons_zero, List.set_cons_succ, i64_w, i32_w]
                rfl
              refine take_ (i := 4) (N := some 88) (v := ?_) (a' := ?_) #[true, true, true, true, true, false, false, false, false, false, false, false, false, false] rfl rfl (by kernel_rfl) (fun _ _ _ h => h) (Or.inl ⟨by rfl, ?_⟩) hHeld ?_ ?_
              rotate_left
              · intro w' hs_
                obtain ⟨hs0, hs1⟩ := hs_
                go_simp
                with_reducible rfl
              rotate_left
              · simp only [Act.put, List.setIfInBounds_toArray, List.set_cons_zero, List.set_cons_succ, i64_w, i32_w]
                rfl
              refine pure_ (i := 5) (N := some 89) (v := ?_) (a' := ?_) #[true, true, true, true, true, true, false, false, false, false, false, false, false, false] rfl rfl (by kernel_rfl) (fun _ _ _ h => h) (Or.inl ⟨by rfl, ?_⟩) ?_ ?_
              rotate_left
              · intro w'
                go_simp
                with_reducible rfl
              rotate_left
              · simp only [Act.put, List.setIfInBounds_toArray, List.set_cons_zero, List.set_cons_succ, i64_w, i32_w]
                rfl
              refine pure_ (i := 6) (N := some 90) (v := ?_) (a' := ?_) #[true, true, true, true, true, true, true, false, false, false, false, false, false, false] rfl rfl (by kernel_rfl) (fun _ _ _ h => h) (Or.inl ⟨by rfl, ?_⟩) ?_ ?_
              rotate_left
              · intro w'
                go_simp
                with_reducible rfl
              rotate_left
              · simp only [Act.put, List.setIfInBounds_toArray, List.set_cons_zero, List.set_cons_succ, i64_w, i32_w]
                rfl
              refine pure_ (i := 7) (N := some 91) (v := ?_) (a' := ?_) #[true, true, true, true, true, true, true, true, false, false, false, false, false, false] rfl rfl (by kernel_rfl) (fun _ _ _ h => h) (Or.inl ⟨by rfl, ?_⟩) ?_ ?_
              rotate_left
              · intro w'
                go_simp
                with_reducible rfl
              rotate_left
              · simp only [Act.put, List.setIfInBounds_toArray, List.set_cons_zero, List.set_cons_succ, i64_w, i32_w]
                rfl
              refine take_ (i := 8) (N := some 92) (v := .slice (some ⟨gu, 0, none⟩) 256 cu) (a' := ?_) #[true, true, true, true, true, true, true, true, true, false, false, false, false, false] rfl rfl (by kernel_rfl) (fun _ _ _ h => h) (Or.inl ⟨by rfl, ?_⟩) hHeld ?_ ?_
              · intro w' hs_
                obtain ⟨hs0, hs1⟩ := hs_
                exact (by go_simp; done)
              rotate_left
              · simp only [Act.put, List.setIfInBounds_toArray, List.set_cons_zero, List.set_cons_succ, i64_w, i32_w]
                rfl
              refine one_ (i := 9) (N := some 93) #[true, true, true, true, true, true, true, true, true, true, false, false, false, false] rfl rfl (by kernel_rfl) (by decide) (fun K hK => ?_)
              refine Kd.R_lit_step (Kd.int .u8) (w0 := wa) wa.heap.size 5 (by rfl) (N := 93) rfl (xs := [1, 2]) (inner := [.int .u8 1, .int .u8 2]) (ok := fun _ => True) (okp := fun _ => True) (by first | (go_simp; done) | (go_simp; rfl)) ((Reps.none _ _).snoc (p := (1 : Int)) (c := [.int .u8 1]) rfl rfl |>.snoc (p := (2 : Int)) (c := [.int .u8 2]) rfl rfl) (fun _ h => h) trivial (Below.refl _ _) (Nat.le_refl _) (by decide) ?_
              intro v6 w6 hr6 hb6 hg6 ha6
              have HSb := Aside0.mk (HSa.out.newRow hb6 hr6)
              obtain ⟨A6, c6, rfl⟩ := Kd.R_slice hr6
              clear HSa hr6 hb6 hg6 ha6 hHeld
              refine hK.out _ _ ⟨(HSb.out.boxed 4 rfl).cell 1 _ rfl, ((HSb.out.rawAt 3 rfl (i := i) (cs := [.int .i64 b, .slice (some ⟨gu, 0, none⟩) 256 cu]) (by rw [List.getElem?_map, HLX.out]; show some [Value.int .i64 b, Value.slice _ ys.length _] = _; rw [HXL.out])).2.2 1 _ rfl).1⟩ (fun hHeld => ?_)
              clear hK K
              refine norm_ (a' := ?_) ?_ ?_
              rotate_left
              · show Act.put _ (some 93) _ = _
                simp only [Act.put, List.setIfInBounds_toArray, List.set_cons_zero, List.set_cons_succ, i64_w, i32_w]
                rfl
              have HL2 := HSb.out.rowC 0 rfl
              obtain ⟨ok, hR, hfr, hadd⟩ := (HSb.out.tail).grown1
              refine one_ (i := 10) (N := some 94) #[true, true, true, true, true, true, true, true, true, true, true, false, false, false] rfl rfl (by kernel_rfl) (by decide) (fun K hK => ?_)
              refine Kd.R_append_rows_step (Kd.int .u8) (w0 := w6) 0 (by rfl) (.tmp 92) (.tmp 93) 29 5 (.int .u8 0) 1 rfl Try.underlying29 info5 rfl (by decide) (by decide) _ zs [1, 2] _ _ _ ok (fun _ => False) (by rfl) (by rfl) hR HL2.1 (fun _ _ h => h) (fun _ h => h.elim) hfr (Below.refl 0 w6) (Nat.zero_le _) (by rw [HZL.out.1]; decide) ?_
              intro v7 w7 hr7 hb7 hg7 ha7
              have HSc := Aside0.mk (hadd hr7 hg7)
              obtain ⟨A7, c7, e7⟩ := Kd.R_slice hr7
              have HZ7 : Aside0 ((zs ++ [1, 2]).length = 258) := ⟨by rw [List.length_append, HZL.out.1]; rfl⟩
              rw [HZ7.out] at e7
              subst e7
              clear hr7 hb7 hg7 ha7 hadd hR hfr HL2 HSb hHeld
              refine hK.out _ _ ⟨(HSc.out.boxed 3 rfl).cell 1 _ rfl, ((HSc.out.rawAt 2 rfl (i := i) (cs := [.int .i64 b, .slice (some ⟨gu, 0, none⟩) 256 cu]) (by rw [List.getElem?_map, HLX.out]; show some [Value.int .i64 b, Value.slice _ ys.length _] = _; rw [HXL.out])).2.2 1 _ rfl).1⟩ (fun hHeld => ?_)
              clear hK K
              refine norm_ (a' := ?_) ?_ ?_
              rotate_left
              · show Act.put _ (some 94) _ = _
                simp only [Act.put, List.setIfInBounds_toArray, List.set_cons_zero, List.set_cons_succ, i64_w, i32_w]
                rfl
              refine pure_ (i := 11) (N := some 95) (v := ?_) (a' := ?_) #[true, true, true, true, true, true, true, true, true, true, true, true, false, false] rfl rfl (by kernel_rfl) (fun _ _ _ h => h) (Or.inl ⟨by rfl, ?_⟩) ?_ ?_
              rotate_left
              · intro w'
                go_simp
                with_reducible rfl
              rotate_left
              · simp only [Act.put, List.setIfInBounds_toArray, List.set_cons_zero, List.set_cons_succ, i64_w, i32_w]
                rfl
              refine pure_ (i := 12) (N := some 96) (v := ?_) (a' := ?_) #[true, true, true, true, true, true, true, true, true, true, true, true, true, false] rfl rfl (by kernel_rfl) (fun _ _ _ h => h) (Or.inl ⟨by rfl, ?_⟩) ?_ ?_
              rotate_left
              · intro w'
                go_simp
                with_reducible rfl
              rotate_left
              · simp only [Act.put, List.setIfInBounds_toArray, List.set_cons_zero, List.set_cons_succ, i64_w, i32_w]
                rfl
              refine last_ (i := 13) (N := none) #[true, true, true, true, true, true, true, true, true, true, true, true, true, true] rfl rfl (by kernel_rfl) (by decide) (fun K hK => ?_)
              obtain ⟨c1_, f1_⟩ := (HSc.out.rawAt 2 rfl (i := i) (cs := [.int .i64 b, .slice (some ⟨gu, 0, none⟩) 256 cu]) (by rw [List.getElem?_map, HLX.out]; show some [Value.int .i64 b, Value.slice _ ys.length _] = _; rw [HXL.out])).2.2 1 _ rfl
              refine skip_ (w1 := ?_) (by rfl) rfl ?_ ?_
              rotate_left
              · go_simp
                rfl
              have HSd := Aside0.mk (((HSc.out.perm [2, 0, 1] 3 (by decide) (by decide)).rawSet (i := i) (cs := [.int .i64 b, .slice (some ⟨gu, 0, none⟩) 256 cu]) (by rw [List.getElem?_map, HLX.out]; show some [Value.int .i64 b, Value.slice _ ys.length _] = _; rw [HXL.out]) 1 (by decide) (.slice A7 258 c7) rfl).perm [1, 2, 0] 3 (by decide) (by decide))
              clear c1_ f1_ HSc hHeld
              refine hK.out _ _ ?_
              clear hK K
              refine done_ (by kernel_rfl) ?_
              have HSe := Aside0.mk (X.Lies.wput2 HSd.out HLX.out)
              have HDE : Aside0 (Done (i + 1) (ws.set i ⟨b, zs ++ [1, 2]⟩)) := ⟨done_step HDN.out (by rw [HZF.out])⟩
              have HLE : Aside0 ((ws.set i ⟨b, zs ++ [1, 2]⟩).length = l0_1.length ∧ Pure.prs (ws.set i ⟨b, zs ++ [1, 2]⟩) = (l.set i (b, .slice A7 258 c7, zs ++ [1, 2])).map fun x => (x.1, x.2.2)) := ⟨by rw [List.length_set]; exact HL.out.1, Pure.prs_set HL.out.2 i b _ _⟩
              clear HSd HZL HZF HZ7
              go_wp2_with fail
              go_roundg g1
              case measure => omega
              case rel => exact ⟨i + 1, _, _, by have := HMF.out.1; rw [show wrap64 ((i : Int) + 1) = ((i + 1 : Nat) : Int) from by unfold wrap64; omega], ⟨by have := HK.out; omega⟩, HLE, HDE, HSe⟩
        · have q0 : decide ((i : Int) < (l0_1.length : Int)) = false := decide_eq_false (by omega)
          have q00 : decide (i < l0_1.length) = false := decide_eq_false hlt
          have x1_ := (HS.out.boxed 1 rfl).cell 1 _ rfl
          obtain rfl : i = l0_1.length := by have := HK.out; omega
          clear HK hlt
          go_wp2_with fail
          clear x1_
          go_loopg [11, 12] l0_1.length (fun gk v11_ v12_ w' => ∃ (i : Nat), v11_ = .int .i64 (i : Int) ∧ Aside0 (gk + i = l0_1.length) ∧ wr = w')
          case atStart => exact ⟨0, rfl, ⟨by omega⟩, rfl⟩
          case round =>
            obtain ⟨i, rfl, HK, rfl⟩ := hrel
            by_cases hlt : i < l0_1.length
            · have q0 : decide ((i : Int) < (l0_1.length : Int)) = true := decide_eq_true (by omega)
              have q00 : decide (i < l0_1.length) = true := decide_eq_true hlt
              have x1_ := (HS.out.boxed 1 rfl).cell 1 _ rfl
              obtain ⟨-, -, -, hg⟩ := Pure.wown_S HS.out 0 rfl HL.out.2
              obtain ⟨g, rfl⟩ := hg (by have := HL.out; omega)
              obtain ⟨x, u, hwx, hlx⟩ := Pure.prs_at HL.out.2 (i := i) (by have := HL.out; omega)
              obtain ⟨-, y1_, Au, cu, rfl, hcu, hCu⟩ := HS.out.wcell hlx
              have hxx := (HDN.out i x hwx).1 hlt
              rw [hxx] at y1_ hCu
              obtain ⟨gu, hgu⟩ : ∃ gu, Au = some ⟨gu, 0, none⟩ := by
                obtain ⟨O, hO⟩ := (HS.out.wget hlx).rowed 0 rfl
                obtain ⟨gu, cu', e3, -⟩ := Kd.R_form hO (by rw [hxx]; simp)
                exact ⟨gu, (Value.slice.inj e3).1⟩
              subst hgu
              have hlen : (List.replicate 256 (i : Int) ++ [1, 2]).length = 258 := by rw [List.length_append, List.length_replicate]; rfl
              rw [hlen] at y1_ hCu
              have HCU := Aside0.mk hCu
              have HX1 := Aside0.mk x1_
              have HY1 := Aside0.mk y1_
              clear hCu hwx hlx hg hxx hcu hlen
              obtain ⟨g1, rfl⟩ : ∃ m, gk = m + 1 := ⟨gk - 1, by have := HK.out; omega⟩
              go_wp2_with fail
              clear x1_ y1_
              go_loopg [12] 256 (fun gk v12_ w' => ∃ (k : Nat), v12_ = .int .i64 (k : Int) ∧ Aside0 (gk + k = 256) ∧ wr = w')
              case atStart => exact ⟨0, rfl, ⟨by omega⟩, rfl⟩
              case round =>
                obtain ⟨k, rfl, HK2, rfl⟩ := hrel
                have x1_ := HX1.out
                have y1_ := HY1.out
                by_cases hlk : k < 256
                · have q1 : decide ((k : Int) < 256) = true := decide_eq_true (by omega)
                  have q11 : decide (k < 256) = true := decide_eq_true hlk
                  have c0_ := X.C_cells HCU.out k (.int .u8 (i : Int)) (by rw [List.getElem?_map, List.getElem?_append_left (by rw [List.length_replicate]; exact hlk), List.getElem?_replicate, if_pos hlk]; rfl)
                  have hu8 : IntKind.u8.wrap (i : Int) = (i : Int) := by have := HMF.out.1; simp [IntKind.wrap, IntKind.bits, IntKind.signed]; omega
                  have ea : ((⟨gu, 0, none⟩ : Addr).add k) = ⟨gu, k, none⟩ := by simp [Addr.add, eq_comm]
                  rw [ea] at c0_
                  clear ea
                  go_wp2_with fail
                  cases gk with
                  | zero => exact absurd HK2.out (by omega)
                  | succ k2 =>
                    go_roundg k2
                    case measure => omega
                    case rel => exact ⟨k + 1, by rfl, ⟨by have := HK2.out; omega⟩, rfl⟩
                · have q1 : decide ((k : Int) < 256) = false := decide_eq_false (by omega)
                  have q11 : decide (k < 256) = false := decide_eq_false hlk
                  go_wp2_with fail
                  go_roundg g1
                  case measure => omega
                  case rel => exact ⟨i + 1, by have := HMF.out.1; rw [show wrap64 ((i : Int) + 1) = ((i + 1 : Nat) : Int) from by unfold wrap64; omega], ⟨by have := HK.out; omega⟩, rfl⟩
            · have q0 : decide ((i : Int) < (l0_1.length : Int)) = false := decide_eq_false (by omega)
              have q00 : decide (i < l0_1.length) = false := decide_eq_false hlt
              have x1_ := (HS.out.boxed 1 rfl).cell 1 _ rfl
              have t0_ := (HS.out.boxed 2 rfl).cell 0 _ rfl
              have t1_ := (HS.out.boxed 2 rfl).cell 1 _ rfl
              have t2_ := (HS.out.boxed 2 rfl).cell 2 _ rfl
              have HSX := HS
              clear HK hlt HS HDN HL
              go_wp2_with fail
              refine (Pure.Encode_part w wr _ a0_0 A0_1 c0_1 l0_1 A0_2 c0_2 l0_2 HSX.out (HR1.out _ HSX.out.below) HC1.out (HR2.out _ HSX.out.below) HC2.out HC.out).mono ?_
              rw [HME.out.1, HME.out.2]
              rintro e w6 ⟨E1, f1, rfl, hs⟩
              have HS6 := Aside0.mk hs
              have t0_ := (hs.boxed 3 rfl).cell 0 _ rfl
              have t1_ := (hs.boxed 3 rfl).cell 1 _ rfl
              have t2_ := (hs.boxed 3 rfl).cell 2 _ rfl
              clear hs HSX x1_
              go_wp2_with fail
              refine (Pure.refEncode_part w w6 _ a0_0 A0_1 c0_1 l0_1 A0_2 c0_2 l0_2 HS6.out (HR1.out _ HS6.out.below) HC1.out (HR2.out _ HS6.out.below) HC2.out HC.out).mono ?_
              rw [HME.out.1, HME.out.2]
              rintro e w7 ⟨E2, f2, rfl, hs⟩
              have k1 := Pure.str_C' (c := f2) (hs.rowC 0 rfl).1
              have k2 := Pure.str_C' (c := f1) (hs.rowC 1 rfl).1
              have HBL := Aside0.mk hs.below
              clear hs HS6 t0_ t1_ t2_
              go_wp2
              go_ret
              exact ⟨rfl, HBL.out⟩
end Go.Proofs.Ytpihpabofgmahaa.U
