/- Written by uprint.py (ours) for this seat: functions of the translation as Lean functions, and what their calls do. Not trusted: Lean checks it. -/
import Derived.Test.YtlhpejdbmbpmhaaUx0
import Derived.Test.YtlhpejdbmbpmhaaUx2
import Derived.Test.YtlhpejdbmbpmhaaUx3
namespace Go.Proofs.Ytlhpejdbmbpmhaa.U
open Go.RowKit Go.Proofs.YtlhpejdbmbpmhaaW.PrintWords Go.Proofs.YtlhpejdbmbpmhaaW.PrintLast Go.Proofs.YtlhpejdbmbpmhaaW.PrintMore
attribute [local go_sem] max2_int min2_int max_two min_two max_three min_three max_four min_four   -- for this text's walks alone
set_option linter.unusedVariables false
set_option linter.unusedSimpArgs false

/-! ### buddy_Orders: function 13 (given) -/
def buddy_Orders.p (k : Nat) (l : List Int) (n : Int) : Nat → Int → List Int → Option (List Int)
  | 0, at_, cs => if at_ ≥ n then some cs else (buddy_pool_free.f k l n at_ 0).bind fun b => if b = true then some (cs.set 0 (wrap64 (rd cs 0 + 1))) else some cs
  | o + 1, at_, cs => if at_ ≥ n then some cs else (buddy_pool_free.f k l n at_ ((o + 1 : Nat) : Int)).bind fun b => if b = true then some (cs.set (o + 1) (wrap64 (rd cs ((o + 1 : Nat) : Int) + 1))) else (buddy_Orders.p k l n o at_ cs).bind fun c1 => buddy_Orders.p k l n o (wrap64 (at_ + 2 ^ o)) c1
def buddy_Orders.l0 : Nat → List Int → Int → Int → List Int → Option (List Int)
  | 0, _, _, _, _ => none
  | k + 1, l, n, at_, cs => if at_ < n then (buddy_Orders.p k l n 6 at_ cs).bind fun c1 => buddy_Orders.l0 k l n (wrap64 (at_ + 64)) c1 else some cs
def buddy_Orders.f (k : Nat) (l0 : List Int) (a1 : Int) : Option (List Int × Int) := if a1 < 0 then some ([], 1) else if a1 > wrap64 (8 * (l0.length : Int)) then some ([], 1) else if l0.length ≤ 140737488355328 then (buddy_Orders.l0 k l0 a1 0 (List.replicate 7 0)).bind fun cs => some (cs, 0) else none
theorem buddy_Orders.mono_p (k : Nat) (l : List Int) (n : Int) : ∀ (o : Nat) (at_ : Int) (cs : List Int), LeO (buddy_Orders.p k l n o at_ cs) (buddy_Orders.p (k + 1) l n o at_ cs)
  | 0, at_, cs => by
    unfold buddy_Orders.p
    exact LeO.ite (LeO.refl _) (LeO.bind (buddy_pool_free.mono _ _ _ _ _) fun _ => LeO.refl _)
  | o + 1, at_, cs => by
    unfold buddy_Orders.p
    exact LeO.ite (LeO.refl _) (LeO.bind (buddy_pool_free.mono _ _ _ _ _) fun _ => LeO.ite (LeO.refl _) (LeO.bind (buddy_Orders.mono_p k l n o _ _) fun _ => buddy_Orders.mono_p k l n o _ _))
theorem buddy_Orders.mono_l : ∀ (k : Nat) (l : List Int) (n at_ : Int) (cs : List Int), LeO (buddy_Orders.l0 k l n at_ cs) (buddy_Orders.l0 (k + 1) l n at_ cs)
  | 0, _, _, _, _ => fun r h => by simp [buddy_Orders.l0] at h
  | k + 1, l, n, at_, cs => by
    rw [buddy_Orders.l0, buddy_Orders.l0]
    exact LeO.ite (LeO.bind (buddy_Orders.mono_p _ _ _ _ _ _) fun _ => buddy_Orders.mono_l _ _ _ _ _) (LeO.refl _)
theorem buddy_Orders.mono : ∀ a0 a1 k, LeO (buddy_Orders.f k a0 a1) (buddy_Orders.f (k + 1) a0 a1) := by
  intro a0 a1 k
  unfold buddy_Orders.f
  exact LeO.ite (LeO.refl _) (LeO.ite (LeO.refl _) (LeO.ite (LeO.bind (buddy_Orders.mono_l _ _ _ _ _) fun _ => LeO.refl _) (LeO.refl _)))
/-- What the function's boxes and the counts hold while 'part' runs. -/
structure buddy_Orders.Inv (A : Option Addr) (c : Nat) (l : List Int) (n : Int) (Bn Bp Bc Bf g cap : Nat) (w : World) (cs : List Int) (W : World) : Prop where
  hn : X.Blk W Bn #[.int .i64 n] 3
  hp : X.Blk W Bp #[.slice A l.length c, .int .i64 n] 45
  hc : X.Blk W Bc #[.slice (some ⟨g, 0, none⟩) 7 cap] 32
  hf : X.Blk W Bf #[.func (.func 28) #[] #[.pointer (some ⟨Bn, 0, none⟩), .pointer (some ⟨Bp, 0, none⟩), .pointer (some ⟨Bc, 0, none⟩), .pointer (some ⟨Bf, 0, none⟩)]] 53
  hr : Kd.R (Kd.int .i64) 3 W w.heap.size (fun k => k = g) (.slice (some ⟨g, 0, none⟩) 7 cap) cs
  hb : Below w.heap.size w W
  ng : Bn ≠ g ∧ Bp ≠ g ∧ Bc ≠ g ∧ Bf ≠ g ∧ w.heap.size ≤ g
theorem buddy_Orders.Inv.below {A : Option Addr} {c : Nat} {l : List Int} {n : Int} {Bn Bp Bc Bf g cap : Nat} {w : World} {cs : List Int} {W W' : World} (h : buddy_Orders.Inv A c l n Bn Bp Bc Bf g cap w cs W) (hb : Below W.heap.size W W') : buddy_Orders.Inv A c l n Bn Bp Bc Bf g cap w cs W' := by
  have hg : g < W.heap.size := Kd.R_lt h.hr g rfl
  exact ⟨h.hn.below hb h.hn.lt, h.hp.below hb h.hp.lt, h.hc.below hb h.hc.lt, h.hf.below hb h.hf.lt, Kd.R_move h.hr (fun k hk => hb.block k (by omega)), h.hb.trans (hb.mono h.hb.size), h.ng⟩
theorem buddy_Orders.Inv.put {A : Option Addr} {c : Nat} {l : List Int} {n : Int} {Bn Bp Bc Bf g cap : Nat} {w : World} {cs : List Int} {W : World} (h : buddy_Orders.Inv A c l n Bn Bp Bc Bf g cap w cs W) (i : Int) (x : Int) : buddy_Orders.Inv A c l n Bn Bp Bc Bf g cap w (cs.set i.toNat x) (W.setCell ⟨g, i.toNat, none⟩ (.int .i64 x)) :=
  ⟨h.hn.other h.ng.1 _ _, h.hp.other h.ng.2.1 _ _, h.hc.other h.ng.2.2.1 _ _, h.hf.other h.ng.2.2.2.1 _ _, (Kd.R_putg h.hr i x).1, h.hb.setCell (p := ⟨g, i.toNat, none⟩) h.ng.2.2.2.2 _, h.ng⟩
theorem buddy_Orders.made (base : Nat) (W : World) (hb : base ≤ W.heap.size) : ∃ cs : Array Value,
    (Instr.makeSlice 32 (.int .i64 7) (.int .i64 7)).run Try.prog W = .ok (.slice (some ⟨W.heap.size, 0, none⟩) 7 7) (W.alloc (.cells cs 3)) ∧
    Kd.R (Kd.int .i64) 3 (W.alloc (.cells cs 3)) base (fun k => k = W.heap.size) (.slice (some ⟨W.heap.size, 0, none⟩) 7 7) (List.replicate 7 0) := by
  have hinfo : (Try.prog.info? 3).map (fun i => (i.zero, i.size, i.bytes)) = some (some (.int .i64 0), 1, 8) := by kernel_rfl
  obtain ⟨i0, hi, hzz⟩ := Option.map_eq_some_iff.1 hinfo
  simp only [Prod.mk.injEq] at hzz
  obtain ⟨hz0, hz1, hz2⟩ := hzz
  have hr := run_makeSlice (P := Try.prog) (w := W) 32 3 i0 (.int .i64 0) (by kernel_rfl) hi hz0 .i64 .i64 7 7 (by decide) (by decide) (by rw [hz1]; decide) (by rw [hz2]; decide) (by decide)
  obtain ⟨w', hr', ho, hg⟩ := run_makeSlice_full (P := Try.prog) (w := W) base 32 3 i0 (.int .i64 0) 1 (by kernel_rfl) hi hz0 hz1 .i64 .i64 7 (by decide) (by rw [hz2]; decide) (by decide) hb
  have he := hr.symm.trans hr'
  injection he with _ hw
  subst hw
  refine ⟨_, hr, ?_, _, ho, Kd.reps_made (R := (Kd.int .i64).M (W.alloc (.cells (madeCells (Value.int .i64 0).cells ((7 : Int).toNat * i0.size)) 3)) base (fun _ => True)) (z := .int .i64 0) (z0 := 0) rfl (by decide) rfl 7⟩
  intro k hk
  simp [Value.ownBlock] at hk
  exact hk.symm
theorem buddy_Orders.st {P : Program} {w : World} {a : Addr} {m : _} (fn : Fn) (first captured : Array Value) : (store a (.func fn first captured) m).run P w = stored P w a (.func fn first captured) m := run_store P w a _ m rfl
section
attribute [local go_sem] Oper.semAt_some buddy_Orders.st
set_option maxHeartbeats 1000000 in
set_option maxRecDepth 100000 in
theorem buddy_Orders.part (k : Nat) (A : Option Addr) (c : Nat) (l : List Int) (n : Int) (Bn Bp Bc Bf g cap : Nat) (w : World) (hr0 : Kd.C (Kd.int .u8) w A l.length l) (hc0 : l.length ≤ c) : ∀ (o : Nat) (ho : o ≤ 6) (m : Int) (hm : m = (o : Int)) (at_ : Int) (cs r : List Int) (W : World),
    buddy_Orders.p k l n o at_ cs = some r → buddy_Orders.Inv A c l n Bn Bp Bc Bf g cap w cs W →
    Calls Try.prog 28 #[.int .i64 at_, .int .i64 m, .pointer (some ⟨Bn, 0, none⟩), .pointer (some ⟨Bp, 0, none⟩), .pointer (some ⟨Bc, 0, none⟩), .pointer (some ⟨Bf, 0, none⟩)] W fun e W' => e = .returned (.tuple #[]) ∧ buddy_Orders.Inv A c l n Bn Bp Bc Bf g cap w r W' := by
  intro o
  induction o with
  | zero =>
    intro ho m hm at_ cs r W h hI
    have hn := hI.hn.cell 0 (.int .i64 n) rfl
    have hp0 := hI.hp.cell 0 (.slice A l.length c) rfl
    have hp1 := hI.hp.cell 1 (.int .i64 n) rfl
    have HI := Aside0.mk hI
    have HR0 := Aside0.mk hr0
    have HC0 := Aside0.mk hc0
    clear hr0 hc0 hI
    rw [buddy_Orders.p] at h
    obtain rfl : m = 0 := hm
    by_cases h1 : at_ ≥ n
    · rw [if_pos h1] at h
      obtain rfl := Option.some.inj h
      clear h
      refine (callsIn_wide (n := 5)).1 ?_
      refine callsIn_of_wp Try.func28 rfl trivial ?_ rfl
      simp only [Try.ntmps28, List.size_toArray, List.length_cons, List.length_nil, Nat.reduceAdd, Nat.reduceSub, Array.replicate_succ, Array.replicate_zero, List.push_toArray, List.append_toArray, List.nil_append, List.cons_append]
      gi_wp2
      refine bodyPost_ret (results_none rfl _ _ _) rfl ?_
      exact ⟨rfl, HI.out⟩
    · rw [if_neg h1] at h
      obtain ⟨b, hf, h⟩ := Option.bind_eq_some_iff.1 h
      have hlt : at_ < n := by omega
      clear h1
      refine (callsIn_wide (n := 5)).1 ?_
      refine callsIn_of_wp Try.func28 rfl trivial ?_ rfl
      simp only [Try.ntmps28, List.size_toArray, List.length_cons, List.length_nil, Nat.reduceAdd, Nat.reduceSub, Array.replicate_succ, Array.replicate_zero, List.push_toArray, List.append_toArray, List.nil_append, List.cons_append]
      gi_wp2_with fail
      refine ⟨trivial, (callsIn_wide.2 (buddy_pool_free.calls k A c l n at_ 0 b W (Kd.C_below HR0.out HI.out.hb) HC0.out hf)).mono ?_⟩
      rintro e W2 ⟨rfl, hb⟩
      have hI2 := HI.out.below hb
      have hc2 := hI2.hc.cell 0 (.slice (some ⟨g, 0, none⟩) 7 cap) rfl
      obtain ⟨hx0, hfx0⟩ := Kd.R_celln 0 hI2.hr 0 (by omega) (by omega)
      have hx : W2.cell? ⟨g, 0, none⟩ = some (.int .i64 (rd cs 0)) := hx0
      have hfx : W2.frozen? ⟨g, 0, none⟩ = false := hfx0
      clear hx0 hfx0
      have HI2 := Aside0.mk hI2
      clear hb hI2 hf hn hp0 hp1
      cases b
      · rw [if_neg (by decide)] at h
        obtain rfl := Option.some.inj h
        clear h
        gi_wp2
        go_end0
        exact ⟨rfl, HI2.out⟩
      · rw [if_pos rfl] at h
        obtain rfl := Option.some.inj h
        clear h
        gi_wp2
        refine bodyPost_ret (results_none rfl _ _ _) rfl ?_
        exact ⟨rfl, HI2.out.put 0 _⟩
  | succ o ih =>
    intro ho m hm at_ cs r W h hI
    have hn := hI.hn.cell 0 (.int .i64 n) rfl
    have hp0 := hI.hp.cell 0 (.slice A l.length c) rfl
    have hp1 := hI.hp.cell 1 (.int .i64 n) rfl
    have HI := Aside0.mk hI
    have HR0 := Aside0.mk hr0
    have HC0 := Aside0.mk hc0
    clear hr0 hc0 hI
    rw [buddy_Orders.p, ← hm] at h
    have hm0 : 0 < m := by omega
    have hm6 : m ≤ 6 := by omega
    have hmo : o + 1 = m.toNat := by omega
    have HM := Aside0.mk hm
    have IH := Aside0.mk ih
    clear hm ih
    by_cases h1 : at_ ≥ n
    · rw [if_pos h1] at h
      obtain rfl := Option.some.inj h
      clear h hmo
      refine (callsIn_wide (n := 5)).1 ?_
      refine callsIn_of_wp Try.func28 rfl trivial ?_ rfl
      simp only [Try.ntmps28, List.size_toArray, List.length_cons, List.length_nil, Nat.reduceAdd, Nat.reduceSub, Array.replicate_succ, Array.replicate_zero, List.push_toArray, List.append_toArray, List.nil_append, List.cons_append]
      gi_wp2
      refine bodyPost_ret (results_none rfl _ _ _) rfl ?_
      exact ⟨rfl, HI.out⟩
    · rw [if_neg h1] at h
      obtain ⟨b, hf, h⟩ := Option.bind_eq_some_iff.1 h
      have hlt : at_ < n := by omega
      clear h1
      refine (callsIn_wide (n := 5)).1 ?_
      refine callsIn_of_wp Try.func28 rfl trivial ?_ rfl
      simp only [Try.ntmps28, List.size_toArray, List.length_cons, List.length_nil, Nat.reduceAdd, Nat.reduceSub, Array.replicate_succ, Array.replicate_zero, List.push_toArray, List.append_toArray, List.nil_append, List.cons_append]
      gi_wp2_with fail
      refine ⟨trivial, (callsIn_wide.2 (buddy_pool_free.calls k A c l n at_ m b W (Kd.C_below HR0.out HI.out.hb) HC0.out hf)).mono ?_⟩
      rintro e W2 ⟨rfl, hb⟩
      have hI2 := HI.out.below hb
      have hc2 := hI2.hc.cell 0 (.slice (some ⟨g, 0, none⟩) 7 cap) rfl
      obtain ⟨hx, hfx⟩ := Kd.R_celln 0 hI2.hr m (by omega) (by omega)
      have hf2 := hI2.hf.cell 0 _ rfl
      have HI2 := Aside0.mk hI2
      have HMO := Aside0.mk hmo
      clear hb hI2 hf hn hp0 hp1 hmo
      cases b
      · rw [if_neg (by decide)] at h
        obtain ⟨c1, h2, h3⟩ := Option.bind_eq_some_iff.1 h
        have H2 := Aside0.mk h2
        have H3 := Aside0.mk h3
        clear h h2 h3 hx hfx
        gi_wp2_with fail
        refine ⟨trivial, (callsIn_wide.2 (IH.out (by omega) (m - 1) (by have := HM.out; omega) at_ cs c1 W2 H2.out HI2.out)).mono ?_⟩
        rintro e W3 ⟨rfl, hI3⟩
        have hf3 := hI3.hf.cell 0 (.func (.func 28) #[] #[.pointer (some ⟨Bn, 0, none⟩), .pointer (some ⟨Bp, 0, none⟩), .pointer (some ⟨Bc, 0, none⟩), .pointer (some ⟨Bf, 0, none⟩)]) rfl
        have hmx : Try.prog.follows .mixedOrders = true := by kernel_rfl
        have h3 : 0 ≤ m - 1 := by omega
        have h4 : m - 1 ≤ 64 := by omega
        have e1 : IntKind.i64.wrap (m - 1) = m - 1 := X.i64_wrap (by omega) (by omega)
        obtain ⟨S, hS⟩ : ∃ S : Int, S = 2 ^ o := ⟨_, rfl⟩
        have e2 : IntKind.i64.wrap (2 ^ (m.toNat - 1)) = S := by
          rw [show m.toNat - 1 = o from by have := HM.out; omega, hS]
          have : o = 0 ∨ o = 1 ∨ o = 2 ∨ o = 3 ∨ o = 4 ∨ o = 5 := by omega
          rcases this with h | h | h | h | h | h <;> rw [h] <;> rfl
        replace H3 := Aside0.mk (show buddy_Orders.p k l n o (wrap64 (at_ + S)) c1 = some r from by rw [hS]; exact H3.out)
        clear hS
        obtain ⟨at2, ha2⟩ : ∃ x : Int, x = wrap64 (at_ + S) := ⟨_, rfl⟩
        have e3 : IntKind.i64.wrap (at_ + S) = at2 := (i64_w _).trans ha2.symm
        have e4 : wrap64 (at_ + S) = at2 := ha2.symm
        replace H3 := Aside0.mk (show buddy_Orders.p k l n o at2 c1 = some r from by rw [← e4]; exact H3.out)
        clear ha2 e4
        have HI3 := Aside0.mk hI3
        clear hI3 hf2 hc2
        gi_wp2_with fail
        have hm1 : m - 1 = (o : Int) := by have := HM.out; omega
        have HM1 := Aside0.mk hm1
        clear hm1
        gi_region_with_o (refine ⟨trivial, (callsIn_wide.2 (IH.out (by omega) (m - 1) HM1.out at2 c1 r W3.drew H3.out (HI3.out.below (below_drew (Below.refl _ _))))).mono ?_⟩; rintro e W4 ⟨rfl, hI4⟩; have HI4 := Aside0.mk hI4; clear hI4)
        gi_wp2
        go_end0
        exact ⟨rfl, HI4.out⟩
      · rw [if_pos rfl] at h
        obtain rfl := Option.some.inj h
        clear h
        gi_wp2
        refine bodyPost_ret (results_none rfl _ _ _) rfl ?_
        refine ⟨rfl, ?_⟩
        rw [HMO.out]
        exact HI2.out.put m _
set_option maxHeartbeats 1000000 in
set_option maxRecDepth 100000 in
theorem buddy_Orders.calls (k : Nat) (A0 : Option Addr) (c0 : Nat) (l0 : List Int) (a1 : Int) (r1 : List Int) (r2 : Int) (w : World) (hr0 : Kd.C (Kd.int .u8) w A0 l0.length l0) (hc0 : l0.length ≤ c0) (h : buddy_Orders.f k l0 a1 = some (r1, r2)) :
    Calls Try.prog 13 #[.slice A0 l0.length c0, .int .i64 a1] w fun e w' => ∃ v0_ : Value, e = .returned (.tuple #[v0_, .int .i64 r2]) ∧ Kd.R (Kd.int .i64) 3 w' w.heap.size (fun _ => True) v0_ r1 ∧ Below w.heap.size w w' := by
  have hV : Kd.V (Kd.int .u8) 5 (w.alloc (.cells #[.int .i64 a1] 3 (0, 0))) (w.alloc (.cells #[.int .i64 a1] 3 (0, 0))).heap.size (fun k => k < w.heap.size) (.slice A0 l0.length c0) l0 := by
    refine Kd.V_mk hc0 (fun W' hW => ?_)
    have hW' : ∀ k, k < w.heap.size → W'.heap[k]? = w.heap[k]? := fun k hk =>
      (hW k hk (by simp; omega)).trans (((Below.refl w.heap.size w).alloc (Nat.le_refl _) (.cells #[.int .i64 a1] 3 (0, 0))).block k hk)
    have hs : w.heap.size ≤ W'.heap.size := by
      rcases Nat.eq_zero_or_pos w.heap.size with h0 | h0
      · omega
      · have := heap_lt (hW' (w.heap.size - 1) (by omega)) (by omega)
        omega
    have hC : Kd.C (Kd.int .u8) { w with heap := W'.heap } A0 l0.length l0 := Kd.C_below hr0 ⟨rfl, rfl, rfl, hs, hW'⟩
    exact hC
  have HR0 := Aside0.mk hr0
  have HC0 := Aside0.mk hc0
  have HV := Aside0.mk hV
  have hn1 := Aside0.mk (X.Blk.new w #[.int .i64 a1] 3)
  clear hr0 hc0 hV
  by_cases hbad : a1 < 0 ∨ a1 > wrap64 (8 * (l0.length : Int))
  · have hN : buddy_newPool.f l0 a1 = some ([], 0, 1) := by
      unfold buddy_newPool.f
      by_cases h1 : a1 < 0
      · rw [if_pos h1]
      · rw [if_neg h1, if_pos (by omega)]
    have hO : buddy_Orders.f k l0 a1 = some ([], 1) := by
      unfold buddy_Orders.f
      by_cases h1 : a1 < 0
      · rw [if_pos h1]
      · rw [if_neg h1, if_pos (by omega)]
    rw [hO] at h
    obtain ⟨rfl, rfl⟩ := Prod.mk.inj (Option.some.inj h)
    clear h hO hbad
    refine (callsIn_wide (n := 5)).1 ?_
    refine callsIn_of_wp Try.func13 rfl trivial ?_ rfl
    simp only [Try.ntmps13, List.size_toArray, List.length_cons, List.length_nil, Nat.reduceAdd, Nat.reduceSub, Array.replicate_succ, Array.replicate_zero, List.push_toArray, List.append_toArray, List.nil_append, List.cons_append]
    have hc := hn1.out.cell 0 (.int .i64 a1) rfl
    gi_wp2_with fail
    refine ⟨trivial, (callsIn_wide.2 (buddy_newPool.calls (fun k => k < w.heap.size) A0 c0 l0 a1 [] 0 1 _ HV.out hN)).mono ?_⟩
    rintro e w1 ⟨v0, rfl, hV1, hb1⟩
    obtain ⟨A1, c1, rfl⟩ := Kd.V_slice hV1
    gi_wp2
    go_ret2
    simp only [World.size_alloc] at hb1
    refine ⟨_, rfl, Kd.R_nil _ _ _ _ _, ?_⟩
    exact ((((Below.refl _ w).alloc (Nat.le_refl _) (.cells #[.int .i64 a1] 3 (0, 0))).trans (hb1.mono (Nat.le_succ _)))).alloc (by have := hb1.size; simp at this; omega) _
  · have hN : buddy_newPool.f l0 a1 = some (l0, a1, 0) := by
      unfold buddy_newPool.f
      rw [if_neg (by omega), if_neg (by omega)]
    unfold buddy_Orders.f at h
    rw [if_neg (by omega), if_neg (by omega)] at h
    by_cases hlen : l0.length ≤ 140737488355328
    rotate_left
    · rw [if_neg hlen] at h
      cases h
    rw [if_pos hlen] at h
    have ha0 : 0 ≤ a1 := by omega
    have ha1 : a1 ≤ 1125899906842624 := by unfold wrap64 at hbad; omega
    obtain ⟨cs, hl, h⟩ := Option.bind_eq_some_iff.1 h
    obtain ⟨rfl, rfl⟩ := Prod.mk.inj (Option.some.inj h)
    clear h hbad
    have HL := Aside0.mk hl
    clear hl
    refine (callsIn_wide (n := 5)).1 ?_
    refine callsIn_of_wp Try.func13 rfl trivial ?_ rfl
    simp only [Try.ntmps13, List.size_toArray, List.length_cons, List.length_nil, Nat.reduceAdd, Nat.reduceSub, Array.replicate_succ, Array.replicate_zero, List.push_toArray, List.append_toArray, List.nil_append, List.cons_append]
    have hc := hn1.out.cell 0 (.int .i64 a1) rfl
    gi_wp2_with fail
    refine ⟨trivial, (callsIn_wide.2 (buddy_newPool.calls (fun k => k < w.heap.size) A0 c0 l0 a1 l0 a1 0 _ HV.out hN)).mono ?_⟩
    rintro e w1 ⟨v0, rfl, hV1, hb1⟩
    obtain ⟨A1, c1, rfl⟩ := Kd.V_slice hV1
    obtain ⟨_, hc1, hC1⟩ := Kd.V_reads' hV1
    have hB1 : Below w.heap.size w w1 := ((Below.refl _ w).alloc (Nat.le_refl _) (.cells #[.int .i64 a1] 3 (0, 0))).trans (hb1.mono (by simp))
    have hn2 := Aside0.mk (hn1.out.below hb1 hn1.out.lt)
    have HC1 := Aside0.mk hc1
    have HR1 := Aside0.mk hC1
    have HB1 := Aside0.mk hB1
    clear hc hc1 hC1 hB1 hb1 hV1 HV hn1 hN
    obtain ⟨mcs, hmk, hR⟩ := buddy_Orders.made w1.heap.size (w1.alloc (.cells #[.slice A1 l0.length c1, .int .i64 a1] 45 (0, 0))) (by simp)
    have hz : ((((w1.alloc (.cells #[.slice A1 l0.length c1, .int .i64 a1] 45 (0, 0))).alloc (.cells mcs 3)).alloc (.cells #[.slice (some ⟨w1.heap.size + 1, 0, none⟩) 7 7] 32))).heap.size = w1.heap.size + 1 + 1 + 1 := by simp
    have hf1 := X.Blk.new (((w1.alloc (.cells #[.slice A1 l0.length c1, .int .i64 a1] 45 (0, 0))).alloc (.cells mcs 3)).alloc (.cells #[.slice (some ⟨w1.heap.size + 1, 0, none⟩) 7 7] 32)) #[.func (.func 28) #[] #[.pointer (some ⟨w.heap.size, 0, none⟩), .pointer (some ⟨w1.heap.size, 0, none⟩), .pointer (some ⟨w1.heap.size + 1 + 1, 0, none⟩), .pointer (some ⟨w1.heap.size + 1 + 1 + 1, 0, none⟩)]] 53
    rw [hz] at hf1
    have hp1 := X.Blk.new w1 #[.slice A1 l0.length c1, .int .i64 a1] 45
    have hc2 := X.Blk.new ((w1.alloc (.cells #[.slice A1 l0.length c1, .int .i64 a1] 45 (0, 0))).alloc (.cells mcs 3)) #[.slice (some ⟨w1.heap.size + 1, 0, none⟩) 7 7] 32
    simp only [World.size_alloc] at hR hc2
    have hlt := hn2.out.lt
    have hI : buddy_Orders.Inv A1 c1 l0 a1 w.heap.size w1.heap.size (w1.heap.size + 1 + 1) (w1.heap.size + 1 + 1 + 1) (w1.heap.size + 1) 7 w1 (List.replicate 7 0)
        ((((w1.alloc (.cells #[.slice A1 l0.length c1, .int .i64 a1] 45 (0, 0))).alloc (.cells mcs 3)).alloc (.cells #[.slice (some ⟨w1.heap.size + 1, 0, none⟩) 7 7] 32)).alloc (.cells #[.func (.func 28) #[] #[.pointer (some ⟨w.heap.size, 0, none⟩), .pointer (some ⟨w1.heap.size, 0, none⟩), .pointer (some ⟨w1.heap.size + 1 + 1, 0, none⟩), .pointer (some ⟨w1.heap.size + 1 + 1 + 1, 0, none⟩)]] 53)) := by
      refine ⟨(((hn2.out.alloc _).alloc _).alloc _).alloc _, ((hp1.alloc _).alloc _).alloc _, hc2.alloc _, hf1, Kd.R_alloc (Kd.R_alloc hR _) _, ?_, by omega⟩
      have b1 := (Below.refl w1.heap.size w1).alloc (Nat.le_refl _) (.cells #[.slice A1 l0.length c1, .int .i64 a1] 45 (0, 0))
      have b2 := b1.alloc b1.size (.cells mcs 3)
      have b3 := b2.alloc b2.size (.cells #[.slice (some ⟨w1.heap.size + 1, 0, none⟩) 7 7] 32)
      exact b3.alloc b3.size _
    have HI := Aside0.mk hI
    clear hR hp1 hc2 hf1 hz hI hlt
    gi_wp2
    gi_loopw [10] (fun v10 wr => ∃ (k' : Nat) (at_ : Int) (cs' : List Int), v10 = .int .i64 at_ ∧ Aside0 (0 ≤ at_) ∧ Aside0 (buddy_Orders.l0 k' l0 a1 at_ cs' = some cs) ∧ Aside0 (buddy_Orders.Inv A1 c1 l0 a1 w.heap.size w1.heap.size (w1.heap.size + 1 + 1) (w1.heap.size + 1 + 1 + 1) (w1.heap.size + 1) 7 w1 cs' wr)) (fun v10 _ => (a1 - intOf v10).toNat)
    case atStart => exact ⟨k, 0, _, rfl, ⟨Int.le_refl _⟩, HL, HI⟩
    case round =>
      obtain ⟨k', at_, cs', rfl, HA, HL', HI'⟩ := hrel
      have hcn := HI'.out.hn.cell 0 (.int .i64 a1) rfl
      cases k' with
      | zero => exact absurd HL'.out (by simp [buddy_Orders.l0])
      | succ k' =>
        have hl' := HL'.out
        rw [buddy_Orders.l0] at hl'
        have hge := HA.out
        clear HL'
        by_cases hlt : at_ < a1
        · rw [if_pos hlt] at hl'
          obtain ⟨c1', hp, hl2⟩ := Option.bind_eq_some_iff.1 hl'
          have HP := Aside0.mk hp
          have hfn := HI'.out.hf.cell 0 (.func (.func 28) #[] #[.pointer (some ⟨w.heap.size, 0, none⟩), .pointer (some ⟨w1.heap.size, 0, none⟩), .pointer (some ⟨w1.heap.size + 1 + 1, 0, none⟩), .pointer (some ⟨w1.heap.size + 1 + 1 + 1, 0, none⟩)]) rfl
          clear hl' hp
          gi_wp2_with fail
          refine ⟨trivial, (callsIn_wide.2 (buddy_Orders.part k' A1 c1 l0 a1 _ _ _ _ _ _ w1 HR1.out HC1.out 6 (by decide) 6 rfl at_ cs' c1' _ HP.out HI'.out)).mono ?_⟩
          rintro e W2 ⟨rfl, hI2⟩
          have HI2 := Aside0.mk hI2
          clear hI2 hcn hfn
          have e1 : IntKind.i64.wrap (at_ + 64) = at_ + 64 := X.i64_wrap (by omega) (by omega)
          have e2 : wrap64 (at_ + 64) = at_ + 64 := by rw [← i64_w]; exact e1
          rw [e2] at hl2
          have HL2 := Aside0.mk hl2
          clear hl2 e2
          gi_wp2
          go_roundw
          case rel => exact ⟨k', at_ + 64, c1', rfl, ⟨by omega⟩, HL2, HI2⟩
          case measure => simp only [intOf]; omega
        · rw [if_neg hlt] at hl'
          obtain rfl := Option.some.inj hl'
          have hcc := HI'.out.hc.cell 0 (.slice (some ⟨w1.heap.size + 1, 0, none⟩) 7 7) rfl
          clear hl'
          gi_wp2
          go_ret2
          exact ⟨_, rfl, Kd.R_lower (Kd.R_mono HI'.out.hr (fun _ _ => trivial)) HB1.out.size, HB1.out.trans (HI'.out.hb.mono HB1.out.size)⟩
end

end Go.Proofs.Ytlhpejdbmbpmhaa.U
