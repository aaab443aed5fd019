/- PLog: what this claim uses. Laid by slim.py (ours). -/
import Derived.Test.YtlbfpjhnpnbikaaKUx10
import Derived.Test.YtlbfpjhnpnbikaaKUx11
import Derived.Test.YtlbfpjhnpnbikaaKUx17
import Derived.Test.YtlbfpjhnpnbikaaKUx28
import Derived.Test.YtlbfpjhnpnbikaaKUx0
import Derived.Test.YtlbfpjhnpnbikaaKPRecP
import Derived.Test.YtlbfpjhnpnbikaaKXFoot
import Derived.Test.YtlbfpjhnpnbikaaKXMap
import Derived.Test.YtlbfpjhnpnbikaaKXFill
namespace Go.Proofs.Ytlbfpjhnpnbikaa.Pure
open Go Go.RowKit Go.Proofs.Ytlbfpjhnpnbikaa.U Go.Proofs.YtlbfpjhnpnbikaaW.PrintWords Go.Proofs.YtlbfpjhnpnbikaaW.PrintLast Go.Proofs.YtlbfpjhnpnbikaaW.PrintMore
set_option linter.unusedVariables false
set_option linter.unusedSimpArgs false
abbrev Tx := S60
theorem refHead_l0 : ∀ (d : Nat) (x : List Int) (k : Nat), x.length + d = 256 → d < k → undercroftref04_Head.l0 k x = some (x ++ List.replicate d 0)
  | 0, x, k, hx, hk => by
    obtain ⟨k, rfl⟩ : ∃ m, k = m + 1 := ⟨k - 1, by omega⟩
    rw [undercroftref04_Head.l0_q1, if_neg (by omega), List.replicate_zero, List.append_nil]
  | d + 1, x, k, hx, hk => by
    obtain ⟨k, rfl⟩ : ∃ m, k = m + 1 := ⟨k - 1, by omega⟩
    rw [undercroftref04_Head.l0_q1, if_pos (by omega), if_pos (by omega), refHead_l0 d (x ++ [0]) k (by rw [List.length_append, List.length_singleton]; omega) (by omega), List.append_assoc, List.replicate_succ]
    rfl
theorem refBytes_bN (v : Int) (n : Nat) (hn : n ≤ 8) (k : Nat) (hk : 8 < k) : undercroftref01_Bytes.f k v (n : Int) = some (bytesN v n) := by
  rw [refBytes_f v (n : Int) k hk]
  have : clamp8 (n : Int) = n := by unfold clamp8 mx mn; split <;> split <;> (try split) <;> omega
  rw [this]
theorem refHead4_f (seq : Int) (pl : Nat) (hp : pl ≤ 1000000) (k : Nat) (hk : 300 < k) : undercroftref04_Head.f k seq (pl : Int) = some (hdB seq pl) := by
  have hr := X.crcMore_range 0 (hd20 seq pl)
  unfold undercroftref04_Head.f
  rw [Option.bind_some, show (8 : Int) = ((8 : Nat) : Int) from rfl, refBytes_bN seq 8 (by decide) k (by omega), Option.bind_some, if_pos (by rw [bytesN_length]; decide), Option.bind_some, u64w (pl : Int) (by omega) (by omega), show (4 : Int) = ((4 : Nat) : Int) from rfl, refBytes_bN _ 4 (by decide) k (by omega), Option.bind_some, if_pos (by simp only [List.length_append, bytesN_length]; decide), Option.bind_some]
  rw [show ([85, 76, 79, 71, 3, 0, 0, 0] ++ bytesN seq 8 ++ bytesN (pl : Int) 4 : List Int) = hd20 seq pl from rfl]
  rw [refSum_f (hd20 seq pl) k (by rw [hd20_length]; decide) (by rw [hd20_length]; omega), Option.bind_some, u64w _ hr.1 (by omega), refBytes_bN _ 4 (by decide) k (by omega), Option.bind_some, if_pos (by rw [hd20_length, bytesN_length]; decide), refHead_l0 232 _ k (by rw [List.length_append, hd20_length, bytesN_length]) (by omega)]
  rfl
theorem refHead_part (w0 w : World) (L : List X.Res) (seq : Int) (pl : Nat) (h : X.Lies w0 w L) (hp : pl ≤ 1000000) :
    Calls Try.prog 53 #[.int .u64 seq, .int .i64 (pl : Int)] w fun e w' => ∃ B d, e = .returned (.slice B 256 d) ∧ X.Lies w0 w' (.row (Kd.int .u8) 5 (.slice B 256 d) (hdB seq pl) :: L) := by
  refine (undercroftref04_Head.calls 301 seq (pl : Int) (hdB seq pl) w (refHead4_f seq pl hp 301 (by decide))).mono ?_
  rintro e w' ⟨v, rfl, hr, hb⟩
  obtain ⟨B, d, rfl⟩ := Kd.R_slice hr
  rw [hdB_length] at hr ⊢
  exact ⟨B, d, rfl, h.newRow hb hr⟩
def hdSeq (b : List Int) : Int := (num ((b.take 16).drop 8) : Int)
def hdPl (b : List Int) : Nat := num ((b.take 20).drop 16)
def hdOk (b : List Int) (len : Int) : Bool := decide ((hdPl b : Int) < len - 1) && decide (hdB (hdSeq b) (hdPl b) = b)
theorem hdPl_lt {b : List Int} (hu : X.u8all b = true) (hl : b.length = 256) : hdPl b < 4294967296 := by
  have h := num_lt ((b.take 20).drop 16) (X.u8all_drop (X.u8all_take hu 20) 16)
  rw [show ((b.take 20).drop 16).length = 4 from by rw [List.length_drop, List.length_take]; omega] at h
  exact h
theorem hdSeq_lt {b : List Int} (hu : X.u8all b = true) (hl : b.length = 256) : 0 ≤ hdSeq b ∧ hdSeq b < 18446744073709551616 := by
  have h := num_lt ((b.take 16).drop 8) (X.u8all_drop (X.u8all_take hu 16) 8)
  rw [show ((b.take 16).drop 8).length = 8 from by rw [List.length_drop, List.length_take]; omega] at h
  unfold hdSeq
  omega
def areaB (n : Nat) (at_ len : Int) : Bool := decide (8 ≤ len ∧ len ≤ 1024 ∧ 0 ≤ at_ ∧ at_ ≤ (n : Int) - len)
def outB (n st len : Nat) (b : Int) : Bool := decide (0 ≤ b ∧ b < (n : Int) ∧ (b < (st : Int) ∨ ((st + len : Nat) : Int) ≤ b))
def fmtE (n : Nat) (at_ len : Int) : Int := if areaB n at_ len = true then 0 else 1
def fmtD (n : Nat) (d : X.DS) (at_ len : Int) : X.DS := if areaB n at_ len = true then (d.write at_.toNat (hdB 1 0)).flush else d
def opnE (n : Nat) (d : X.DS) (at_ len : Int) : Int := if areaB n at_ len = true then (if hdOk (d.read at_.toNat) len = true then 0 else 13) else 1
structure LS where
  st : Nat
  len : Nat
  seq : Int
  pl : Nat
  live : List Tx
def opnS (d : X.DS) (at_ len : Int) : LS := ⟨at_.toNat, len.toNat, hdSeq (d.read at_.toNat), hdPl (d.read at_.toNat), []⟩
def LS.used (s : LS) : Nat := (s.live.map fun t => t.f1.length + 2).sum
def fairB (n : Nat) (s : LS) (ws : List S66) (rs : List Int) : Bool := ws.all (fun x => outB n s.st s.len x.f0) && rs.all (outB n s.st s.len)
structure LS.Ok (s : LS) (n : Nat) : Prop where
  l0 : 8 ≤ s.len
  l1 : s.len ≤ 1024
  fit : s.st + s.len ≤ n
  n1 : n ≤ 1024
  pl : s.pl < s.len - 1
  sq : 0 ≤ s.seq ∧ s.seq < 18446744073709551616
  us : s.used ≤ s.len - 1
  live : ∀ t ∈ s.live, mayB t.f1 t.f2 = true ∧ Came t.f0 t.f1 t.f2 ∧ fairB n s t.f1 t.f2 = true
def ringW (d : X.DS) (s : LS) (enc : List Int) : Nat → X.DS
  | 0 => d
  | i + 1 => (ringW d s enc i).write (s.st + 1 + (s.pl + i) % (s.len - 1)) (X.blk enc i)
theorem ringW_pend (d : X.DS) (s : LS) (enc : List Int) : ∀ i, (ringW d s enc i).pend.length ≤ d.pend.length + i
  | 0 => Nat.le_refl _
  | i + 1 => by
    have ih := ringW_pend d s enc i
    have := X.DS.write_pend (ringW d s enc i) (s.st + 1 + (s.pl + i) % (s.len - 1)) (X.blk enc i)
    unfold ringW
    omega
def appE (n : Nat) (s : LS) (ws : List S66) (rs : List Int) : Int := if (fairB n s ws rs && mayB ws rs) = true then (if ws.length + 2 + s.used ≤ s.len - 1 then 0 else 9) else 17
def appD (n : Nat) (d : X.DS) (s : LS) (ws : List S66) (rs : List Int) : X.DS := if appE n s ws rs = 0 then ringW d s (encL s.seq ws rs) (ws.length + 2) else d
def appS (n : Nat) (s : LS) (ws : List S66) (rs : List Int) : LS := if appE n s ws rs = 0 then ⟨s.st, s.len, IntKind.u64.wrap (s.seq + 1), (s.pl + (ws.length + 2)) % (s.len - 1), s.live ++ [⟨s.seq, ws, rs⟩]⟩ else s
def appQ (n : Nat) (s : LS) (ws : List S66) (rs : List Int) : Int := if appE n s ws rs = 0 then s.seq else 0
def revB (l : List Tx) (i : Nat) (b : Int) : Bool := (l.drop (i + 1)).any fun t => t.f2.contains b
def wrTo (l : List Tx) (i : Nat) (ws : List S66) (d : X.DS) : Nat → X.DS
  | 0 => d
  | k + 1 => match ws[k]? with
    | some x => if revB l i x.f0 = true then wrTo l i ws d k else (wrTo l i ws d k).write x.f0.toNat x.f1
    | none => wrTo l i ws d k
theorem mulw (i lo : Nat) (h : lo = 256 * i) (hi : i ≤ 100000) : wrap64 ((i : Int) * 256) = (lo : Int) := by
  rw [wrap64_id (by omega) (by omega)]
  omega
theorem mulw1 (i hi : Nat) (h : hi = 256 * i + 256) (hb : i ≤ 100000) : wrap64 (((i : Int) + 1) * 256) = (hi : Int) := by
  rw [wrap64_id (by omega) (by omega)]
  omega
theorem sucw (i : Nat) (hb : i ≤ 100000) : wrap64 ((i : Int) + 1) = (i : Int) + 1 := wrap64_id (by omega) (by omega)
theorem infoW : (Try.prog.info? 66).map (·.size) = some 2 := by kernel_rfl
theorem infoW3 : (Try.prog.info? 66).map (fun i => (i.zero, i.size, i.bytes)) = some (some (.agg #[.int .i64 0, .slice none 0 0]), 2, 32) := by kernel_rfl
theorem infoT3 : (Try.prog.info? 60).map (fun i => (i.zero, i.size, i.bytes)) = some (some (.agg #[.int .u64 0, .slice none 0 0, .slice none 0 0]), 3, 56) := by kernel_rfl
theorem infoI3 : (Try.prog.info? 3).map (fun i => (i.zero, i.size, i.bytes)) = some (some (.int .i64 0), 1, 8) := by kernel_rfl
theorem zeroW_run (w : World) : (zeroValue 66).run Try.prog w = .ok (.agg #[.int .i64 0, .slice none 0 0]) w := by kernel_rfl
theorem zeroT_run (w : World) : (zeroValue 60).run Try.prog w = .ok (.agg #[.int .u64 0, .slice none 0 0, .slice none 0 0]) w := by kernel_rfl
theorem sliceW (w : World) (cs : List Value) (h : cs.length = 2) : (Instr.buildSlice 57 1 #[(0, .agg cs.toArray)]).run Try.prog w = .ok (.slice (some ⟨w.heap.size, 0, none⟩) 1 1) (w.alloc (.cells cs.toArray 66)) := by
  obtain ⟨it, hi, hz⟩ := Option.map_eq_some_iff.1 infoW3
  simp only [Prod.mk.injEq] at hz
  exact X.slice_one Try.underlying57 hi zeroW_run 2 hz.2.1 (by decide) (by decide) cs h rfl
theorem sliceT (w : World) (cs : List Value) (h : cs.length = 3) : (Instr.buildSlice 43 1 #[(0, .agg cs.toArray)]).run Try.prog w = .ok (.slice (some ⟨w.heap.size, 0, none⟩) 1 1) (w.alloc (.cells cs.toArray 60)) := by
  obtain ⟨it, hi, hz⟩ := Option.map_eq_some_iff.1 infoT3
  simp only [Prod.mk.injEq] at hz
  exact X.slice_one Try.underlying43 hi zeroT_run 3 hz.2.1 (by decide) (by decide) cs h rfl
theorem spot_nil {w : World} {a : Addr} {v : Value} (h : w.cell? a = some v) : a.spot = none := by
  cases hs : a.spot with
  | none => rfl
  | some x =>
    exfalso
    unfold World.cell? at h
    split at h <;> simp [hs] at h
theorem wr_at {w : World} {A : Option Addr} {n : Nat} {ws : List S66} (h : Kd.C k66 w A n ws) {i : Nat} {x : S66} (hx : ws[i]? = some x) : ∃ g o A4 c4, A = some ⟨g, o, none⟩ ∧ w.rangeAt g (o + i * 2) [.int .i64 x.f0, .slice A4 x.f1.length c4] ∧ x.f1.length ≤ c4 ∧ (Kd.int .u8).C w A4 x.f1.length x.f1 := by
  have hl := h.1
  have hi := (List.getElem?_eq_some_iff.1 hx).1
  obtain ⟨⟨b, o, sp⟩, rfl, hc⟩ := h.2.2 (by omega)
  obtain ⟨c, hcl, ⟨c0, c1, rfl, h0, A4, c4, h1, h2, h3⟩, hcell⟩ := hc i x hx
  have h0 : c0 = [.int .i64 x.f0] := h0
  subst h0 h1
  have h4 := hcell 0 _ rfl
  have hsp : sp = none := by
    obtain ⟨d, _, ⟨d0, d1, rfl, g0, _⟩, dcell⟩ := hc 0 _ (List.getElem?_eq_getElem (show 0 < ws.length by omega))
    have g0 : d0 = [.int .i64 _] := g0
    subst g0
    have h5 := spot_nil (dcell 0 _ rfl)
    unfold Addr.add at h5
    simpa using h5
  subst hsp
  refine ⟨b, o, A4, c4, rfl, fun j v hj => ?_, h2, h3⟩
  have h5 := hcell j v hj
  have e : (⟨b, o, none⟩ : Addr).add (i * k66.sz + j) = ⟨b, o + i * 2 + j, none⟩ := by
    rw [add_at, show k66.sz = 2 from rfl, Nat.add_assoc]
  rw [e] at h5
  exact h5
theorem kTx_mk {w : World} {x : Tx} {A1 A2 : Option Addr} {c1 c2 : Nat} (g1 : x.f1.length ≤ c1) (h1 : Kd.C k66 w A1 x.f1.length x.f1) (g2 : x.f2.length ≤ c2) (h2 : Kd.C (Kd.int .i64) w A2 x.f2.length x.f2) : k60.K w x [.int .u64 x.f0, .slice A1 x.f1.length c1, .slice A2 x.f2.length c2] :=
  ⟨[.int .u64 x.f0], [.slice A1 x.f1.length c1, .slice A2 x.f2.length c2], rfl, rfl, [.slice A1 x.f1.length c1], [.slice A2 x.f2.length c2], rfl, ⟨A1, c1, rfl, g1, h1⟩, ⟨A2, c2, rfl, g2, h2⟩⟩
theorem int_at {w : World} {k : IntKind} {A : Option Addr} {n : Nat} {rs : List Int} (h : (Kd.int k).C w A n rs) {i : Nat} {b : Int} (hb : rs[i]? = some b) : ∃ g o, A = some ⟨g, o, none⟩ ∧ w.cell? ⟨g, o + i, none⟩ = some (.int k b) := by
  have hl := h.1
  have hi := (List.getElem?_eq_some_iff.1 hb).1
  obtain ⟨⟨g, o, sp⟩, rfl, -⟩ := h.2.2 (by omega)
  have hc := X.C_cells h
  have h0 := hc 0 _ (by rw [List.getElem?_map, List.getElem?_eq_getElem (show 0 < rs.length by omega)]; rfl)
  have hsp : sp = none := by
    have h5 := spot_nil h0
    unfold Addr.add at h5
    simpa using h5
  subst hsp
  have h1 := hc i _ (by rw [List.getElem?_map, hb]; rfl)
  rw [add_at] at h1
  exact ⟨g, o, rfl, h1⟩
theorem txn_freeze {w0 w : World} {L : List X.Res} {sq : Int} {A1 A2 : Option Addr} {n1 n2 c1 c2 : Nat} {l : List (Int × Value × List Int)} {ws : List S66} {rs : List Int} (h : X.Lies w0 w (.wown (.slice A1 n1 c1) l :: .row (Kd.int .i64) 3 (.slice A2 n2 c2) rs :: L)) (hx : prs ws = l.map fun x => (x.1, x.2.2)) : X.Lies w0 w (.ft (fun w' => k60.K w' (⟨sq, ws, rs⟩ : S60) [.int .u64 sq, .slice A1 n1 c1, .slice A2 n2 c2]) :: L) := by
  refine X.Lies.freeze (X.Lies.close [_, _] h) (fun w' O S hh => ?_)
  obtain ⟨Of, Sf, g1, -⟩ := hh
  have hl : ws.length = l.length := by have := congrArg List.length hx; simpa [prs] using this
  obtain ⟨A, c, e, h2, h3, -⟩ := X.wown_holds (f := fun x : S66 => (x.f0, x.f1)) (g1 0 _ rfl) hx
  obtain ⟨rfl, rfl, rfl⟩ := Value.slice.inj e
  have hr : (Kd.int .i64).R 3 w' 0 (Of 1) (.slice A2 n2 c2) rs := g1 1 _ rfl
  obtain ⟨rfl, h5, h6⟩ := Kd.R_reads' hr
  rw [← hl] at h2 h3 ⊢
  exact kTx_mk (x := (⟨sq, ws, rs⟩ : S60)) h2 h3 h5 h6
def logC (p : Nat) (s : LS) (v : Value) : Array Value := #[.pointer (some ⟨p, 0, none⟩), .int .i64 (s.st : Int), .int .i64 ((s.len - 1 : Nat) : Int), .int .u64 s.seq, .int .i64 (s.pl : Int), v, .int .i64 (s.used : Int)]
def logP (g p : Nat) (s : LS) : X.Res := .ex fun v : Value => .sep [.box g (logC p s v) 93, .rows k60 60 v s.live]
def refC (q : Nat) (s : LS) (v : Value) : Array Value := #[.pointer (some ⟨q, 0, none⟩), .int .i64 (s.st : Int), .int .i64 (s.len : Int), .int .u64 s.seq, .int .i64 (s.pl : Int), v]
def logR (g q : Nat) (s : LS) : X.Res := .ex fun v : Value => .sep [.box g (refC q s v) 45, .rows k60 60 v s.live]
section
variable {w0 w : World} {L : List X.Res} {g p : Nat} {s : LS}
theorem logP_open (h : X.Lies w0 w (logP g p s :: L)) : ∃ A c, X.Lies w0 w (.box g (logC p s (.slice A s.live.length c)) 93 :: .rows k60 60 (.slice A s.live.length c) s.live :: L) ∧ (0 < s.live.length → ∃ b, A = some ⟨b, 0, none⟩) := by
  obtain ⟨v, h⟩ := h.exi
  have h2 := h.open_
  obtain ⟨A, c, rfl, -, -, hg⟩ := X.Lies.rform h2 1 rfl
  exact ⟨A, c, h2, hg⟩
theorem logP_close {v : Value} (h : X.Lies w0 w (.box g (logC p s v) 93 :: .rows k60 60 v s.live :: L)) : X.Lies w0 w (logP g p s :: L) := X.Lies.toEx v (X.Lies.close [_, _] h)
theorem logR_close {v : Value} (h : X.Lies w0 w (.box g (refC p s v) 45 :: .rows k60 60 v s.live :: L)) : X.Lies w0 w (logR g p s :: L) := X.Lies.toEx v (X.Lies.close [_, _] h)
end
end Go.Proofs.Ytlbfpjhnpnbikaa.Pure
