/- raw.Write: a raster of pixels, or that there is none. -/
import Derived.Test.YtdjonaajfhbfhaaQ0
import Derived.Test.YtdjonaajfhbfhaaQ4
import Derived.Test.YtdjonaajfhbfhaaIraw_New
import Derived.Test.YtdjonaajfhbfhaaIpix_Unpack
import Derived.Test.YtdjonaajfhbfhaaQ8
import Derived.Test.YtdjonaajfhbfhaaQ9
import Derived.Below
import Derived.Deep.Draws
import Derived.Deep.AppendLies
import Derived.Maps.AppendAt
import Derived.OwnWalk
import Derived.Laws.BytesArg
import Derived.Laws.MakeOwn
import Derived.Laws.OwnMore
import Derived.Deep.OwnRows
import Derived.Tactics
import Derived.Lib.ConvBytes
import Derived.Laws.Slices
import Derived.WalkKit
import Derived.KernelRfl
import Derived.RowKit3
import Derived.Deep.LoopGhost
import Derived.Deep.QuietTactic
import Derived.BigQuiet
import Derived.WideLaws
import Derived.Deep.DeepCutAuto
import Derived.Deep.CutBlock
import Derived.Deep.RegionHeld3
import Derived.Laws.Rows
import Derived.Lib.AppendStr
import Derived.ArgAppend
import Derived.Laws.IdiomCopy
import Derived.OrdersHeld
import Derived.Laws.BitsLemmas
import Derived.RowKit
import Derived.Test.YtdjonaajfhbfhaaMore
import Derived.Test.YtdjonaajfhbfhaaPeel
import Derived.Test.YtdjonaajfhbfhaaRaw
import Derived.Scope
import Derived.Test.YtdjonaajfhbfhaaWWords
import Derived.Test.YtdjonaajfhbfhaaWLast
import Derived.Test.YtdjonaajfhbfhaaWTab
import Derived.Test.YtdjonaajfhbfhaaWQPut
import Derived.Test.YtdjonaajfhbfhaaWApart
import Derived.Test.YtdjonaajfhbfhaaWArr
import Derived.Test.YtdjonaajfhbfhaaWZeros
import Derived.Test.YtdjonaajfhbfhaaWFoot
import Derived.Test.YtdjonaajfhbfhaaWKept
import Derived.Test.YtdjonaajfhbfhaaWShare
import Derived.Test.YtdjonaajfhbfhaaWN
import Derived.Test.YtdjonaajfhbfhaaWFootNe
import Derived.Test.YtdjonaajfhbfhaaWAt
import Derived.Test.YtdjonaajfhbfhaaWGuard
import Derived.Test.YtdjonaajfhbfhaaWNEv
import Derived.Test.YtdjonaajfhbfhaaWMore
import Derived.Deep.RegionWith
import Derived.StillTailTactics
import Derived.Laws.CopyOwn
import Derived.Deep.RegionLaw
import Derived.Deep.CutRange
namespace Go.Proofs.Ytdjonaajfhbfhaa.Q
open Go.RowKit Go.Proofs.YtdjonaajfhbfhaaW.PrintWords Go.Proofs.YtdjonaajfhbfhaaW.PrintLast Go.Proofs.YtdjonaajfhbfhaaW.PrintMore
set_option linter.unusedVariables false
set_option linter.unusedSimpArgs false
theorem goesH_ {P : Program} {ops : Array Oper} {Q : Exit → Act → World → Prop} {rest : List Oper} {oi : Oper} {a : Act} {w : World} (N : Option Tmp) (hd : oi.dst = N) (hg : oi.guard = none) {f : FuncId} {x : Operand} {lb : Array Value} {ax : Array Operand} {ts : Array TypeId}
    (hent : ∀ (args : Array Value) (w : World), (callFunc f args).run P w = .ok (.enter f args) w) (args : Array Value) (hop : oi.op = .call { callee := .value x, args := ax, argTypes := ts }) (hx : a.eval x = .func (.func f) #[] lb) (hargs : ax.map a.eval = args)
    (h : Calls P f (args ++ lb) w fun e w' => ∃ v, e = .returned v ∧ wpList P ops Q rest (a.put N v) w') : wpList P ops Q (oi :: rest) a w := by
  refine wpList_plain hg fun K hK => ?_
  have hrun : (execOp a.eval oi).run P w = .ok (.enter f (args ++ lb)) w := by
    unfold execOp
    simp [hop, hx, resolve, Deferred.ofValue, invoke, hargs, hent]
  unfold Oper.wp
  rw [hrun, Oper.upon_enter]
  refine h.mono fun e w'' hh => ?_
  obtain ⟨v, rfl, hk⟩ := hh
  subst hd
  exact hK _ _ hk
set_option maxRecDepth 100000 in
set_option maxHeartbeats 4000000 in
theorem slices_IndexFunc_px.calls (gf : FuncId) (lb : Array Value) (G : Int → Bool) (A0 : Option Addr) (c0 : Nat) (l0 : List Int) (w : World) (hr0 : Kd.C (Kd.int .u64) w A0 l0.length l0) (hl : l0.length ≤ 4611686018427387904)
    (hent : ∀ (args : Array Value) (w : World), (callFunc gf args).run Try.prog w = .ok (.enter gf args) w)
    (hG : ∀ W, Below w.heap.size w W → ∀ n ∈ l0, Calls Try.prog gf (#[.int .u64 n] ++ lb) W fun e W' => e = .returned (.bool (G n)) ∧ Below W.heap.size W W') :
    Calls Try.prog 55 #[.slice A0 l0.length c0, .func (.func gf) #[] lb] w fun e w' => ∃ i : Int, e = .returned (.int .i64 i) ∧ decide (i ≥ 0) = l0.any G ∧ Below w.heap.size w w' := by
  have HR0 := Aside0.mk hr0
  have HL := Aside0.mk hl
  have HG := Aside0.mk hG
  clear hr0 hl hG
  go_enter Try.func55, Try.ntmps55
  go_wp2
  go_loopg [8] (l0.length + 1) (fun kq v8 w' => ∃ (i : Nat), v8 = .int .i64 (i : Int) ∧ Aside0 (kq + i = l0.length + 1) ∧ Aside0 (i ≤ l0.length) ∧ Aside0 (∀ j, j < i → G (l0.getD j 0) = false) ∧ Aside0 (Below w.heap.size w w'))
  case atStart => exact ⟨0, rfl, ⟨rfl⟩, ⟨by omega⟩, ⟨fun j hj => by omega⟩, ⟨Below.refl _ _⟩⟩
  case round =>
    obtain ⟨i, rfl, HM, HI, HN, HB⟩ := hrel
    obtain ⟨k1, rfl⟩ : ∃ m, gk = m + 1 := ⟨gk - 1, by have h1 := HM.out; have h2 := HI.out; omega⟩
    by_cases c : i < l0.length
    · have c0_ : decide ((i : Int) < (l0.length : Int)) = true := decide_eq_true (by omega)
      have q0 : ((i : Int) < (l0.length : Int)) = True := eq_true (by omega)
      obtain ⟨ad, rfl, hx⟩ := Kd.at_int (Kd.C_below HR0.out HB.out) (i : Int) (by omega) (by omega)
      rw [Int.toNat_natCast] at hx
      have hrd : rd l0 (i : Int) = l0.getD i 0 := by unfold rd; rw [Int.toNat_natCast]
      rw [hrd] at hx
      have hmem : l0.getD i 0 ∈ l0 := by rw [List.getD_eq_getElem?_getD, List.getElem?_eq_getElem c]; exact List.getElem_mem c
      have HG1 := Aside0.mk (HG.out wr HB.out _ hmem)
      have hnext : G (l0.getD i 0) = false → ∀ j, j < i + 1 → G (l0.getD j 0) = false := fun h j hj => by
        rcases Nat.lt_or_ge j i with h' | h'
        · exact HN.out j h'
        · obtain rfl : j = i := by omega
          exact h
      have hfound : G (l0.getD i 0) = true → l0.any G = true := fun h => List.any_eq_true.2 ⟨_, hmem, h⟩
      have HX := Aside0.mk hnext
      have HF := Aside0.mk hfound
      clear hmem hrd hnext hfound
      generalize l0.getD i 0 = v at *
      cases hv : G v with
      | true =>
        rw [hv] at HG1
        have HV := Aside0.mk (HF.out hv)
        clear hv
        go_wp2_with ((with_reducible refine gate_dst (N := 16) rfl ?_); refine goesH_ (some 16) rfl rfl (x := .tmp 11) (lb := lb) (f := gf) hent #[.int .u64 v] rfl rfl (by (try simp only [List.map_toArray, List.map_cons, List.map_nil]); rfl) ?_; refine HG1.out.mono ?_; rintro e w5 ⟨rfl, hb⟩; refine ⟨_, rfl, ?_⟩; have HB5 := Aside0.mk (below_step HB.out hb); clear hb)
        go_ret
        exact ⟨(i : Int), rfl, by rw [HV.out]; exact decide_eq_true (by omega), HB5.out⟩
      | false =>
        rw [hv] at HG1
        have HV := Aside0.mk (HX.out hv)
        clear hv
        go_wp2_with ((with_reducible refine gate_dst (N := 16) rfl ?_); refine goesH_ (some 16) rfl rfl (x := .tmp 11) (lb := lb) (f := gf) hent #[.int .u64 v] rfl rfl (by (try simp only [List.map_toArray, List.map_cons, List.map_nil]); rfl) ?_; refine HG1.out.mono ?_; rintro e w5 ⟨rfl, hb⟩; refine ⟨_, rfl, ?_⟩; have HB5 := Aside0.mk (below_step HB.out hb); clear hb)
        go_roundg k1
        case measure => omega
        case rel => exact ⟨i + 1, by rw [show wrap64 ((i : Int) + 1) = ((i + 1 : Nat) : Int) from (by have h1 := HI.out; have h2 := HL.out; unfold wrap64; omega)], ⟨by have := HM.out; omega⟩, ⟨c⟩, HV, HB5⟩
    · have c0_ : decide ((i : Int) < (l0.length : Int)) = false := decide_eq_false (by omega)
      have c0n : decide (i < l0.length) = false := decide_eq_false c
      have HA : Aside0 (l0.any G = false) := ⟨by
        rw [List.any_eq_false]
        intro x hx
        obtain ⟨j, hj, rfl⟩ := List.mem_iff_getElem.1 hx
        have := HN.out j (by have := HI.out; omega)
        rw [List.getD_eq_getElem?_getD, List.getElem?_eq_getElem hj] at this
        simpa using this⟩
      go_wp2
      go_ret
      exact ⟨-1, rfl, by rw [HA.out]; rfl, HB.out⟩
def slices_ContainsFunc_Fits.f (l0 : List Int) (c m : Int) : Option Bool := if l0.length ≤ 4611686018427387904 ∧ (l0.all fun p => (pix_Fits.f 10 p c m).isSome) = true then some (l0.any fun p => pix_Fits.f 10 p c m == some false) else none
set_option maxRecDepth 100000 in
set_option maxHeartbeats 4000000 in
theorem slices_ContainsFunc_Fits.calls (A0 : Option Addr) (c0 : Nat) (l0 : List Int) (c m : Int) (g : Nat) (r : Bool) (w : World) (hr0 : Kd.C (Kd.int .u64) w A0 l0.length l0) (hc0 : l0.length ≤ c0) (hb : w.heap[g]? = some (.cells #[.int .i64 c, .int .i64 m] 60 (0, 0))) (h : slices_ContainsFunc_Fits.f l0 c m = some r) :
    Calls Try.prog 34 #[.slice A0 l0.length c0, .func (.func 32) #[] #[.pointer (some ⟨g, 0, none⟩)]] w fun e w' => e = .returned (.bool r) ∧ Below w.heap.size w w' := by
  unfold slices_ContainsFunc_Fits.f at h
  split at h
  · rename_i hh
    obtain ⟨hl, hall⟩ := hh
    obtain rfl := Option.some.inj h
    clear h
    have hlt : g < w.heap.size := (Array.getElem?_eq_some_iff.1 hb).1
    have HI := Aside0.mk (slices_IndexFunc_px.calls 32 #[.pointer (some ⟨g, 0, none⟩)] (fun p => pix_Fits.f 10 p c m == some false) A0 c0 l0 w hr0 hl (enters_ Try.func32 (by kernel_rfl) rfl) (by
      intro W hW n hn
      have hbW : W.heap[g]? = some (.cells #[.int .i64 c, .int .i64 m] 60 (0, 0)) := (hW.block g hlt).trans hb
      have hc1 : W.cell? ⟨g, 0, none⟩ = some (.int .i64 c) := by simp [World.cell?, hbW]
      have hc2 : W.cell? ⟨g, 1, none⟩ = some (.int .i64 m) := by simp [World.cell?, hbW]
      have hu := Try.underlying60
      obtain ⟨b, hbb⟩ := Option.isSome_iff_exists.1 (List.all_eq_true.1 hall n hn)
      have hbv : (pix_Fits.f 10 n c m == some false) = !b := by rw [hbb]; cases b <;> rfl
      rw [hbv]
      have HBB := Aside0.mk hbb
      clear hbW hb hW hlt hr0 hc0 hl hall hn hbb hbv
      show Calls Try.prog 32 #[.int .u64 n, .pointer (some ⟨g, 0, none⟩)] W _
      go_enter Try.func32, Try.ntmps32
      go_wp2_with ((with_reducible refine gate_callee (f := 33) rfl ?_); refine goesL_ (some 6) rfl rfl Try.func33 (by kernel_rfl) rfl #[.int .u64 n, .agg #[.int .i64 c, .int .i64 m]] rfl (by (try simp only [List.map_toArray, List.map_cons, List.map_nil]); rfl) ?_; refine (pix_Fits.calls 10 n c m b _ HBB.out).mono ?_; rintro e w5 ⟨rfl, hb⟩; refine ⟨_, rfl, ?_⟩; have HB5 := Aside0.mk hb; clear hb)
      go_ret
      exact ⟨rfl, HB5.out⟩))
    clear hr0 hc0 hb hl hall hlt
    go_enter Try.func34, Try.ntmps34
    go_wp2_with ((with_reducible refine gate_dst (N := 7) rfl ?_); refine goesL_ (some 7) rfl rfl Try.func55 (by kernel_rfl) rfl #[.slice A0 l0.length c0, .func (.func 32) #[] #[.pointer (some ⟨g, 0, none⟩)]] rfl (by (try simp only [List.map_toArray, List.map_cons, List.map_nil]); rfl) ?_; refine HI.out.mono ?_; rintro e w5 ⟨i, rfl, hi, hb⟩; refine ⟨_, rfl, ?_⟩; have HB5 := Aside0.mk hb; have HII := Aside0.mk hi; clear hb hi)
    go_ret
    exact ⟨by rw [← HII.out]; rfl, HB5.out⟩
  · simp at h
/-- The pixels of row y, and their samples. -/
def partP (P : List Int) (V y : Nat) : List Int := (P.take ((y + 1) * V)).drop (y * V)
def rowP (P : List Int) (V y : Nat) : List Int := (partP P V y).flatMap pixL
/-- A sample's bytes, where a row is no row of bits. -/
def wrB (k m s : Int) : List Int := if k = 4 then [] else if m > 255 then [s / 256 % 256, s % 256] else [s % 256]
def own0P (k : Int) (row : List Int) : Option (List Int) := if k = 4 then (bits_Pack.f 5000 row).bind fun t => some t.1 else some []
/-- The bytes of so many rows, from row y on. -/
def rowsP (P : List Int) (V S : Nat) (k m : Int) : Nat → Nat → Option (List Int)
  | 0, _ => some []
  | n + 1, y => (own0P k (rowP P V y)).bind fun o => if (o ++ (rowP P V y).flatMap (wrB k m)).length = S then (rowsP P V S k m n (y + 1)).bind fun r => some ((o ++ (rowP P V y).flatMap (wrB k m)) ++ r) else none
theorem rowsP_len {P : List Int} {V S : Nat} {k m : Int} : ∀ (n y : Nat) (R : List Int), rowsP P V S k m n y = some R → R.length = n * S
  | 0, _, R, h => by obtain rfl := Option.some.inj h; simp
  | n + 1, y, R, h => by
    obtain ⟨o, h1, h2⟩ := Option.bind_eq_some_iff.mp h
    split at h2
    · rename_i hl
      obtain ⟨r, h3, h4⟩ := Option.bind_eq_some_iff.mp h2
      obtain rfl := Option.some.inj h4
      rw [List.length_append, hl, rowsP_len n (y + 1) r h3, Nat.succ_mul, Nat.add_comm]
    · simp at h2
theorem part_len {P : List Int} {V H y : Nat} (hl : P.length = V * H) (hy : y < H) : (partP P V y).length = V := by
  have h1 := Nat.mul_le_mul_left V (show y + 1 ≤ H from hy)
  have h2 : (y + 1) * V = y * V + V := Nat.succ_mul y V
  have h3 : V * (y + 1) = y * V + V := by rw [Nat.mul_comm, h2]
  simp [partP]
  omega
theorem fits_range {p c m : Int} (h : (pix_Fits.f 10 p c m).isSome = true) : 0 ≤ p ∧ p ≤ 18446744073709551615 := by
  unfold pix_Fits.f pix_Unpack.f at h
  split at h
  · assumption
  · simp at h
theorem cont_range {P : List Int} {c m : Int} {b : Bool} (h : slices_ContainsFunc_Fits.f P c m = some b) : ∀ p ∈ P, 0 ≤ p ∧ p ≤ 18446744073709551615 := by
  unfold slices_ContainsFunc_Fits.f at h
  split at h
  · rename_i hh
    exact fun p hp => fits_range (List.all_eq_true.1 hh.2 p hp)
  · simp at h
/-- A row's bytes as a block holds them. -/
theorem R_of_cells {W : World} {base g : Nat} (xs : List Int) (hg : W.heap[g]? = some (.cells (xs.map (Value.int .u8)).toArray 5 (0, 0))) (hb : base ≤ g) (hm : xs.length ≤ maxLen) :
    Kd.R (Kd.int .u8) 5 W base (fun _ => True) (.slice (some ⟨g, 0, none⟩) xs.length xs.length) xs := by
  refine Kd.R_of_own ⟨by simp [encs], .inr ⟨g, xs.length, (xs.map (Value.int .u8)).toArray, rfl, hb, hg, Nat.le_refl _, hm, by simp, ?_⟩⟩ (fun _ _ => trivial)
  exact List.take_of_length_le (by simp)
theorem form_is {k w h m : Int} (e : rawMay k w h m = true) : head_Format.f k w h m = some (if k = 6 then 3 else 1, m) := by
  have h1 := rawMay_is e
  unfold head_Format.f
  rcases (by omega : k = 4 ∨ k = 5 ∨ k = 6) with rfl | rfl | rfl <;> rfl
theorem size_is {k m : Int} {V H : Nat} (e : rawMay k (V : Int) (H : Int) m = true) (hw : V ≤ 30) (hh : H ≤ 4) : head_Size.f k (V : Int) (H : Int) m = some ((rawS k (V : Int) m * H : Nat) : Int) := by
  have h1 := rawMay_is e
  have hH : H = 1 ∨ H = 2 ∨ H = 3 ∨ H = 4 := by omega
  unfold head_Size.f
  rw [(raw_may_raw e).2, Option.bind_some, if_pos rfl]
  unfold rawS sampW
  by_cases h4 : k = 4
  · rw [if_pos h4, if_pos h4]
    have e1 : wrap64 ((V : Int) + 7) = ((V + 7 : Nat) : Int) := by unfold wrap64; omega
    rw [e1, Int.tdiv_eq_ediv_of_nonneg (by omega)]
    congr 1
    rcases hH with rfl | rfl | rfl | rfl <;> (unfold wrap64; omega)
  · rw [if_neg h4, if_neg h4]
    by_cases hm : m ≤ 255
    · rw [if_neg (by omega), if_pos hm, form_is e, Option.bind_some]
      congr 1
      by_cases h6 : k = 6
      · simp only [if_pos h6]
        rcases hH with rfl | rfl | rfl | rfl <;> (unfold wrap64; omega)
      · simp only [if_neg h6]
        rcases hH with rfl | rfl | rfl | rfl <;> (unfold wrap64; omega)
    · rw [if_pos (by omega), if_neg hm, form_is e, Option.bind_some]
      congr 1
      by_cases h6 : k = 6
      · simp only [if_pos h6]
        rcases hH with rfl | rfl | rfl | rfl <;> (unfold wrap64; omega)
      · simp only [if_neg h6]
        rcases hH with rfl | rfl | rfl | rfl <;> (unfold wrap64; omega)
def raw_Write.f (l0 : List Int) (k w h m : Int) : Option (List Int × Int) :=
  if rawMay k w h m = true ∧ w ≤ 30 ∧ h ≤ 4 then
    (if l0.length = w.toNat * h.toNat then (slices_ContainsFunc_Fits.f l0 (if k = 6 then 3 else 1) m).bind fun b => if b = true then some ([], 1) else (rowsP l0 w.toNat (rawS k w m) k m h.toNat 0).bind fun r => some (r, 0)
    else some ([], 1))
  else none
theorem writePixelInfo : (Try.prog.info? 26).map (fun i => (i.zero, i.size, i.bytes)) = some (some (.int .u64 0), 1, 8) := by kernel_rfl
theorem writeIntInfo : (Try.prog.info? 3).map (fun i => (i.zero, i.size, i.bytes)) = some (some (.int .i64 0), 1, 8) := by kernel_rfl
theorem writeByteSize : (Try.prog.info? 5).map (·.size) = some 1 := by kernel_rfl
theorem write_vh (V H : Nat) (h1 : V ≤ 30) (h2 : H ≤ 4) : wrap64 ((V : Int) * (H : Int)) = ((V * H : Nat) : Int) := by
  have h1 : V * H ≤ 30 * 4 := Nat.mul_le_mul h1 h2
  rw [← Int.natCast_mul]
  generalize V * H = q at *
  unfold wrap64; omega
theorem write_n1 {N : Nat} (h : N ≤ 720) : N * 1 ≤ 281474976710656 := by omega
set_option maxRecDepth 100000 in
set_option maxHeartbeats 8000000 in
theorem raw_Write.short (A0 : Option Addr) (c0 : Nat) (l0 : List Int) (k m ch : Int) (V H : Nat) (W : World) (hf : head_Format.f k (V : Int) (H : Int) m = some (ch, m)) (hn : raw_New.f k (V : Int) (H : Int) m = some (k, (V : Int), (H : Int), m, 0, 0, 0, 0, 0, 0)) (q : Int) (hq : wrap64 ((V : Int) * (H : Int)) = q) (hlen : ¬ (l0.length : Int) = q) :
    Calls Try.prog 10 #[.slice A0 l0.length c0, .agg #[.int .i64 k, .int .i64 (V : Int), .int .i64 (H : Int), .int .i64 m]] W fun e w' => e = .returned (.tuple #[.slice none 0 0, .int .i64 1]) ∧ Below W.heap.size W w' := by
  have hu := Try.underlying34
  have hu60 := Try.underlying60
  have HF := Aside0.mk hf
  have HN := Aside0.mk hn
  have hmf_ : ∀ (fn_ : Fn) (first cap : Array Value) (w_ : World), (Instr.makeFunc fn_ first cap).run Try.prog w_ = .ok (.func fn_ first cap) w_ := fun _ _ _ _ => rfl
  clear hf hn
  go_enter Try.func10, Try.ntmps10
  go_wp2_with (first | (go_at_call 31; refine (head_Format.calls _ _ _ _ _ _ _ HF.out).mono ?_; rintro e w2 ⟨rfl, hb⟩; have HB2 := Aside0.mk (below_alloc (below_step (below_alloc (Below.refl _ _) _) hb) (.cells #[.int .i64 ch, .int .i64 m] 60)); have BK2 := Aside0.mk (blk_alloc (blk_below (blk_new W (.cells #[.int .i64 k, .int .i64 (V : Int), .int .i64 (H : Int), .int .i64 m] 34)) hb) (.cells #[.int .i64 ch, .int .i64 m] 60)); clear hb; have hc_0 := bc_ (v := .int .i64 k) BK2.out 0; have hc_1 := bc_ (v := .int .i64 (V : Int)) BK2.out 1; have hc_2 := bc_ (v := .int .i64 (H : Int)) BK2.out 2; have hc_3 := bc_ (v := .int .i64 m) BK2.out 3) | (go_at_call 18; refine (raw_New.calls _ _ _ _ _ _ _ _ _ _ _ _ _ _ W _ HB2.out HN.out).mono ?_; rintro e w3 ⟨g1, rfl, hI1, hB1, hb⟩; have HB3 := Aside0.mk hB1; have BK3 := Aside0.mk (blk_below BK2.out hb); clear hI1 hB1 hb hc_0 hc_1 hc_2 hc_3; have hc_0 := bc_ (v := .int .i64 k) BK3.out 0; have hc_1 := bc_ (v := .int .i64 (V : Int)) BK3.out 1; have hc_2 := bc_ (v := .int .i64 (H : Int)) BK3.out 2; have hc_3 := bc_ (v := .int .i64 m) BK3.out 3))
  go_ret2
  exact ⟨rfl, HB3.out⟩
set_option maxRecDepth 100000 in
set_option maxHeartbeats 8000000 in
theorem raw_Write.bad (A0 : Option Addr) (c0 : Nat) (l0 : List Int) (k m ch : Int) (V H : Nat) (W : World) (hf : head_Format.f k (V : Int) (H : Int) m = some (ch, m)) (hn : raw_New.f k (V : Int) (H : Int) m = some (k, (V : Int), (H : Int), m, 0, 0, 0, 0, 0, 0)) (hr0 : Kd.C (Kd.int .u64) W A0 l0.length l0) (hc0 : l0.length ≤ c0) (hlen : wrap64 ((V : Int) * (H : Int)) = (l0.length : Int)) (hbad : slices_ContainsFunc_Fits.f l0 ch m = some true) :
    Calls Try.prog 10 #[.slice A0 l0.length c0, .agg #[.int .i64 k, .int .i64 (V : Int), .int .i64 (H : Int), .int .i64 m]] W fun e w' => e = .returned (.tuple #[.slice none 0 0, .int .i64 1]) ∧ Below W.heap.size W w' := by
  have hu := Try.underlying34
  have hu60 := Try.underlying60
  have HF := Aside0.mk hf
  have HN := Aside0.mk hn
  have hmf_ : ∀ (fn_ : Fn) (first cap : Array Value) (w_ : World), (Instr.makeFunc fn_ first cap).run Try.prog w_ = .ok (.func fn_ first cap) w_ := fun _ _ _ _ => rfl
  have HR0 := Aside0.mk hr0
  have HC0 := Aside0.mk hc0
  have HBAD := Aside0.mk hbad
  clear hf hn hr0 hc0 hbad
  go_enter Try.func10, Try.ntmps10
  go_wp2_with (first | (go_at_call 31; refine (head_Format.calls _ _ _ _ _ _ _ HF.out).mono ?_; rintro e w2 ⟨rfl, hb⟩; have HB2 := Aside0.mk (below_alloc (below_step (below_alloc (Below.refl _ _) _) hb) (.cells #[.int .i64 ch, .int .i64 m] 60)); have BK2 := Aside0.mk (blk_alloc (blk_below (blk_new W (.cells #[.int .i64 k, .int .i64 (V : Int), .int .i64 (H : Int), .int .i64 m] 34)) hb) (.cells #[.int .i64 ch, .int .i64 m] 60)); have BF2 := Aside0.mk (blk_new w2 (.cells #[.int .i64 ch, .int .i64 m] 60)); clear hb; have hc_0 := bc_ (v := .int .i64 k) BK2.out 0; have hc_1 := bc_ (v := .int .i64 (V : Int)) BK2.out 1; have hc_2 := bc_ (v := .int .i64 (H : Int)) BK2.out 2; have hc_3 := bc_ (v := .int .i64 m) BK2.out 3) | (go_at_call 18; refine (raw_New.calls _ _ _ _ _ _ _ _ _ _ _ _ _ _ W _ HB2.out HN.out).mono ?_; rintro e w3 ⟨g1, rfl, hI1, hB1, hb⟩; have HB3 := Aside0.mk hB1; have BK3 := Aside0.mk (blk_below BK2.out hb); have BF3 := Aside0.mk (blk_below BF2.out hb); clear hI1 hB1 hb hc_0 hc_1 hc_2 hc_3; have hc_0 := bc_ (v := .int .i64 k) BK3.out 0; have hc_1 := bc_ (v := .int .i64 (V : Int)) BK3.out 1; have hc_2 := bc_ (v := .int .i64 (H : Int)) BK3.out 2; have hc_3 := bc_ (v := .int .i64 m) BK3.out 3) | (go_at_call 34; refine (slices_ContainsFunc_Fits.calls A0 c0 l0 ch m w2.heap.size _ _ (Kd.C_below HR0.out HB3.out) HC0.out BF3.out HBAD.out).mono ?_; rintro e w4 ⟨rfl, hb⟩; have HB4 := Aside0.mk (below_step HB3.out hb); clear hb))
  go_ret2
  exact ⟨rfl, HB4.out⟩
theorem pixL_le3 (p : Int) : (pixL p).length ≤ 3 := by
  unfold pixL
  split
  · simp
  · split <;> simp
theorem flat_le3 : ∀ l : List Int, (l.flatMap pixL).length ≤ 3 * l.length
  | [] => by simp
  | p :: l => by
    have h1 := pixL_le3 p
    have h2 := flat_le3 l
    rw [List.flatMap_cons, List.length_append, List.length_cons]
    omega
theorem take_next (L : List Int) (i : Nat) (h : i < L.length) : (L.take (i + 1)).flatMap pixL = (L.take i).flatMap pixL ++ pixL (L.getD i 0) := by
  rw [List.take_add_one, List.flatMap_append, List.getD_eq_getElem?_getD, List.getElem?_eq_getElem h]
  simp
theorem pixL_0 (p : Int) (h : 0 ≤ p) : ∀ x ∈ pixL p, 0 ≤ x ∧ x ≤ 65535 := by
  unfold pixL
  intro x hx
  split at hx
  · simp at hx; omega
  · split at hx
    · simp at hx; omega
    · simp at hx
theorem unpack_f (p : Int) (h : 0 ≤ p ∧ p ≤ 18446744073709551615) : pix_Unpack.f p = some (pixL p) := by unfold pix_Unpack.f; rw [if_pos h]
theorem flat_take (f : Int → List Int) (l : List Int) (j : Nat) : ((l.take j).flatMap f).length ≤ (l.flatMap f).length := by
  have h : l.flatMap f = (l.take j).flatMap f ++ (l.drop j).flatMap f := by rw [← List.flatMap_append, List.take_append_drop]
  rw [h, List.length_append]
  omega
theorem C_new1 (w : World) (x : Int) : Kd.C (Kd.int .u8) (w.alloc (.cells #[.int .u8 x] 5)) (some ⟨w.heap.size, 0, none⟩) 1 [x] := by
  refine Kd.C_of_reads (d := (0 : Int)) ⟨rfl, by decide, fun _ => ⟨_, rfl, fun i hi => ?_⟩⟩
  obtain rfl : i = 0 := by omega
  exact bc_ (blk_new w (.cells #[.int .u8 x] 5)) 0
theorem C_new2 (w : World) (x y : Int) : Kd.C (Kd.int .u8) (w.alloc (.cells #[.int .u8 x, .int .u8 y] 5)) (some ⟨w.heap.size, 0, none⟩) 2 [x, y] := by
  refine Kd.C_of_reads (d := (0 : Int)) ⟨rfl, by decide, fun _ => ⟨_, rfl, fun i hi => ?_⟩⟩
  have h : i = 0 ∨ i = 1 := by omega
  rcases h with rfl | rfl
  · exact bc_ (blk_new w (.cells #[.int .u8 x, .int .u8 y] 5)) 0
  · exact bc_ (blk_new w (.cells #[.int .u8 x, .int .u8 y] 5)) 1
theorem addr_at (g j : Nat) : (⟨g, 0, none⟩ : Addr).add j = ⟨g, j, none⟩ := by unfold Addr.add; split <;> simp_all
theorem off_bounds (S H N y : Nat) (hS : S ≤ 180) (hH : H ≤ 4) (hy : y < H) (hN : N = S * H) : y * S + S ≤ N ∧ (y + 1) * S = y * S + S ∧ N - y * S - S = N - (y + 1) * S ∧ wrap64 ((y : Int) * (S : Int)) = ((y * S : Nat) : Int) := by
  have h1 : y * S ≤ 4 * 180 := Nat.mul_le_mul (by omega) hS
  have h2 : (y + 1) * S = y * S + S := Nat.succ_mul y S
  have h3 : (y + 1) * S ≤ N := by rw [hN, Nat.mul_comm S H]; exact Nat.mul_le_mul_right S hy
  refine ⟨by omega, h2, by omega, ?_⟩
  rw [← Int.natCast_mul]
  clear h2 h3
  generalize y * S = q at *
  unfold wrap64; omega
theorem R_some {W : World} {base : Nat} {ok : Nat → Prop} {v : Value} {xs : List Int} (h : Kd.R (Kd.int .u8) 5 W base ok v xs) (hp : 0 < xs.length) : ∃ (ad : Addr) (c : Nat), v = .slice (some ad) xs.length c := by
  obtain ⟨g, cap, hv, _⟩ := Kd.R_form h hp
  exact ⟨_, cap, hv⟩
theorem splice_row (D F : List Int) (n off : Nat) (hD : D.length = off) : splice ((D ++ List.replicate n 0).map (Value.int .u8)) off (F.map (Value.int .u8)) = ((D ++ F) ++ List.replicate (n - F.length) 0).map (Value.int .u8) := by
  subst hD
  unfold splice
  rw [List.map_append, List.map_append, List.map_append]
  have e1 : (D.map (Value.int .u8) ++ (List.replicate n 0).map (Value.int .u8)).take D.length = D.map (Value.int .u8) := List.take_left' (by simp)
  have e2 : (D.map (Value.int .u8) ++ (List.replicate n 0).map (Value.int .u8)).drop (D.length + (F.map (Value.int .u8)).length) = (List.replicate (n - F.length) 0).map (Value.int .u8) := by
    rw [List.drop_append]
    simp
  rw [e1, e2, List.append_assoc]
/-- One row on: what the rows from y on are. -/
theorem rowsP_on {P : List Int} {V S H : Nat} {k m : Int} {y : Nat} {R : List Int} (hy : y < H) (h : rowsP P V S k m (H - y) y = some R) :
    ∃ o R', own0P k (rowP P V y) = some o ∧ (o ++ (rowP P V y).flatMap (wrB k m)).length = S ∧ rowsP P V S k m (H - (y + 1)) (y + 1) = some R' ∧ R = (o ++ (rowP P V y).flatMap (wrB k m)) ++ R' := by
  obtain ⟨n, hn⟩ : ∃ n, H - y = n + 1 := ⟨H - y - 1, by omega⟩
  rw [hn] at h
  rw [show H - (y + 1) = n by omega]
  obtain ⟨o, h1, h2⟩ := Option.bind_eq_some_iff.mp h
  split at h2
  · rename_i hl
    obtain ⟨r, h3, h4⟩ := Option.bind_eq_some_iff.mp h2
    exact ⟨o, r, h1, hl, h3, (Option.some.inj h4).symm⟩
  · simp at h2
theorem rowsP_off {P : List Int} {V S H : Nat} {k m : Int} {y : Nat} {R : List Int} (hy : ¬ y < H) (h : rowsP P V S k m (H - y) y = some R) : R = [] := by
  rw [show H - y = 0 by omega] at h
  exact (Option.some.inj h).symm
/-- The cuts' bounds. -/
theorem cut_bounds (V H y : Nat) (hV : V ≤ 30) (hH : H ≤ 4) (hy : y < H) : y * V ≤ (y + 1) * V ∧ (y + 1) * V ≤ V * H ∧ (y + 1) * V - y * V = V ∧ wrap64 ((y : Int) * (V : Int)) = ((y * V : Nat) : Int) ∧ wrap64 ((y : Int) + 1) = ((y + 1 : Nat) : Int) ∧ wrap64 (((y + 1 : Nat) : Int) * (V : Int)) = (((y + 1) * V : Nat) : Int) := by
  have h1 : y * V ≤ 4 * 30 := Nat.mul_le_mul (by omega) hV
  have h2 : (y + 1) * V ≤ 4 * 30 := Nat.mul_le_mul (by omega) hV
  have h3 : (y + 1) * V ≤ V * H := by rw [Nat.mul_comm]; exact Nat.mul_le_mul_left V hy
  have h4 : (y + 1) * V = y * V + V := Nat.succ_mul y V
  refine ⟨by omega, h3, by omega, ?_, ?_, ?_⟩
  · rw [← Int.natCast_mul]
    clear h2 h3 h4
    generalize y * V = q at *
    unfold wrap64; omega
  · clear h1 h2 h3 h4; unfold wrap64; omega
  · rw [← Int.natCast_mul]
    clear h1 h3 h4
    generalize (y + 1) * V = q at *
    unfold wrap64; omega
set_option maxRecDepth 100000 in
set_option maxHeartbeats 8000000 in
theorem raw_Write.good (A0 : Option Addr) (c0 : Nat) (l0 : List Int) (k m ch : Int) (V H : Nat) (W : World) (hf : head_Format.f k (V : Int) (H : Int) m = some (ch, m)) (hn : raw_New.f k (V : Int) (H : Int) m = some (k, (V : Int), (H : Int), m, 0, 0, 0, 0, 0, 0)) (hr0 : Kd.C (Kd.int .u64) W A0 l0.length l0) (hc0 : l0.length ≤ c0) (hlen : wrap64 ((V : Int) * (H : Int)) = (l0.length : Int)) (hbad : slices_ContainsFunc_Fits.f l0 ch m = some false)
    (S N : Nat) (r : List Int) (hsz : head_Size.f k (V : Int) (H : Int) m = some (N : Int)) (hst : raw_Stride.f k (V : Int) (H : Int) m = some (S : Int)) (hSb : 1 ≤ S ∧ S ≤ 180) (hN : N = S * H) (hV : 1 ≤ V ∧ V ≤ 30) (hH : 1 ≤ H ∧ H ≤ 4) (hk : 4 ≤ k ∧ k ≤ 6 ∧ 1 ≤ m ∧ m ≤ 65535) (hlen1 : l0.length = V * H) (hrr : rowsP l0 V S k m H 0 = some r) :
    Calls Try.prog 10 #[.slice A0 l0.length c0, .agg #[.int .i64 k, .int .i64 (V : Int), .int .i64 (H : Int), .int .i64 m]] W fun e w' => ∃ v0_ : Value, e = .returned (.tuple #[v0_, .int .i64 0]) ∧ Kd.R (Kd.int .u8) 5 w' W.heap.size (fun _ => True) v0_ r ∧ Below W.heap.size W w' := by
  have hu := Try.underlying34
  have hu60 := Try.underlying60
  have HF := Aside0.mk hf
  have HN := Aside0.mk hn
  have hmf_ : ∀ (fn_ : Fn) (first cap : Array Value) (w_ : World), (Instr.makeFunc fn_ first cap).run Try.prog w_ = .ok (.func fn_ first cap) w_ := fun _ _ _ _ => rfl
  have HR0 := Aside0.mk hr0
  have HC0 := Aside0.mk hc0
  have HBAD := Aside0.mk hbad
  have HSZ := Aside0.mk hsz
  have HST := Aside0.mk hst
  have HSB := Aside0.mk hSb
  have HNN := Aside0.mk hN
  have HV := Aside0.mk hV
  have HH := Aside0.mk hH
  have HK := Aside0.mk hk
  have HLEN := Aside0.mk hlen1
  have HRR := Aside0.mk hrr
  have HRNG := Aside0.mk (cont_range hbad)
  have hSH : N ≤ 720 := by rw [hN]; exact Nat.mul_le_mul hSb.2 hH.2
  have HSH := Aside0.mk hSH
  have hmk := print_make (P := Try.prog) 27 5 .u8 1 Try.underlying27 raw_byteInfo (by decide) N (write_n1 hSH)
  clear hf hn hr0 hc0 hbad hsz hst hSb hN hV hH hk hlen1 hrr hSH
  go_enter Try.func10, Try.ntmps10
  go_wp2_with (first | (go_at_call 31; refine (head_Format.calls _ _ _ _ _ _ _ HF.out).mono ?_; rintro e w2 ⟨rfl, hb⟩; have HB2 := Aside0.mk (below_alloc (below_step (below_alloc (Below.refl _ _) _) hb) (.cells #[.int .i64 ch, .int .i64 m] 60)); have BK2 := Aside0.mk (blk_alloc (blk_below (blk_new W (.cells #[.int .i64 k, .int .i64 (V : Int), .int .i64 (H : Int), .int .i64 m] 34)) hb) (.cells #[.int .i64 ch, .int .i64 m] 60)); have BF2 := Aside0.mk (blk_new w2 (.cells #[.int .i64 ch, .int .i64 m] 60)); clear hb; have hc_0 := bc_ (v := .int .i64 k) BK2.out 0; have hc_1 := bc_ (v := .int .i64 (V : Int)) BK2.out 1; have hc_2 := bc_ (v := .int .i64 (H : Int)) BK2.out 2; have hc_3 := bc_ (v := .int .i64 m) BK2.out 3) | (go_at_call 18; refine (raw_New.calls _ _ _ _ _ _ _ _ _ _ _ _ _ _ W _ HB2.out HN.out).mono ?_; rintro e w3 ⟨g1, rfl, hI1, hB1, hb⟩; have HB3 := Aside0.mk hB1; have BK3 := Aside0.mk (blk_below BK2.out hb); have BF3 := Aside0.mk (blk_below BF2.out hb); clear hI1 hB1 hb hc_0 hc_1 hc_2 hc_3; have hc_0 := bc_ (v := .int .i64 k) BK3.out 0; have hc_1 := bc_ (v := .int .i64 (V : Int)) BK3.out 1; have hc_2 := bc_ (v := .int .i64 (H : Int)) BK3.out 2; have hc_3 := bc_ (v := .int .i64 m) BK3.out 3) | (go_at_call 34; refine (slices_ContainsFunc_Fits.calls A0 c0 l0 ch m w2.heap.size _ _ (Kd.C_below HR0.out HB3.out) HC0.out BF3.out HBAD.out).mono ?_; rintro e w4 ⟨rfl, hb⟩; have HB4 := Aside0.mk (below_step HB3.out hb); have BK4 := Aside0.mk (blk_below BK3.out hb); clear hb hc_0 hc_1 hc_2 hc_3; have hc_0 := bc_ (v := .int .i64 k) BK4.out 0; have hc_1 := bc_ (v := .int .i64 (V : Int)) BK4.out 1; have hc_2 := bc_ (v := .int .i64 (H : Int)) BK4.out 2; have hc_3 := bc_ (v := .int .i64 m) BK4.out 3) | (go_at_call 35; refine (head_Size.calls _ _ _ _ _ _ HSZ.out).mono ?_; rintro e w5 ⟨rfl, hb⟩; have HB5 := Aside0.mk (below_alloc (below_step HB4.out hb) (.cells (madeCells #[.int .u8 0] N) 5)); have BK5 := Aside0.mk (blk_alloc (blk_below BK4.out hb) (.cells (madeCells #[.int .u8 0] N) 5)); have BO5 := Aside0.mk (blk_new w5 (.cells (madeCells #[.int .u8 0] N) 5)); have HGO := Aside0.mk (below_step HB4.out hb).size; have HGO1 := Aside0.mk (blk_lt (blk_below BK4.out hb)); clear hb hc_0 hc_1 hc_2 hc_3; have hc_2 := bc_ (v := .int .i64 (H : Int)) BK5.out 2))
  go_loopg [48] (H + 1) (fun kq v48 w' => ∃ (y : Nat) (D R : List Int), v48 = .int .i64 (y : Int) ∧ Aside0 (kq + y = H + 1) ∧ Aside0 (y ≤ H) ∧ Aside0 (rowsP l0 V S k m (H - y) y = some R) ∧ Aside0 (r = D ++ R) ∧ Aside0 (D.length = y * S) ∧ Aside0 (w'.heap[w5.heap.size]? = some (.cells ((D ++ List.replicate (N - y * S) 0).map (Value.int .u8)).toArray 5 (0, 0))) ∧ Aside0 (w'.heap[W.heap.size]? = some (.cells #[.int .i64 k, .int .i64 (V : Int), .int .i64 (H : Int), .int .i64 m] 34 (0, 0))) ∧ Aside0 (Below W.heap.size W w'))
  case atStart => exact ⟨0, [], r, rfl, ⟨rfl⟩, ⟨Nat.zero_le _⟩, HRR, ⟨rfl⟩, ⟨by simp⟩, ⟨by rw [Nat.zero_mul, Nat.sub_zero, List.nil_append, ← raw_blank]; exact BO5.out⟩, BK5, HB5⟩
  case round =>
    clear HRR HB2 HB3 HB4 HB5 BK2 BK3 BK4 BK5 BF2 BF3 BO5 hc_2 hmk hmf_ hlen HN HF
    obtain ⟨y, D, R, rfl, HKQ, HY, HRR, HRD, HD, HBO, HBK, HBW⟩ := hrel
    obtain ⟨k1, rfl⟩ : ∃ q, gk = q + 1 := ⟨gk - 1, by have h1 := HKQ.out; have h2 := HY.out; omega⟩
    by_cases cy : y < H
    · have c0_ : decide ((y : Int) < (H : Int)) = true := decide_eq_true (by omega)
      have c0n : decide (y < H) = true := decide_eq_true cy
      obtain ⟨o, R', ho, hoS, hR', hRR⟩ := rowsP_on cy HRR.out
      obtain ⟨b1, b2, b3, b4, b5, b6⟩ := cut_bounds V H y HV.out.2 HH.out.2 cy
      rw [← HLEN.out] at b2
      have hcm := Kd.C_mid HR0.out b1 b2 HC0.out
      obtain ⟨i0, hi, hz⟩ := Option.map_eq_some_iff.1 writePixelInfo
      simp only [Prod.mk.injEq] at hz
      have hcut0 := cut_mid (P := Try.prog) 29 26 .i64 .i64 Try.underlying29 hi 1 hz.2.1 A0 l0.length c0 ((y * V : Nat) : Int) (((y + 1) * V : Nat) : Int) (Int.natCast_nonneg _) (Int.ofNat_le.2 b1) (Int.ofNat_le.2 b2) HC0.out
      rw [Int.toNat_natCast, Int.toNat_natCast, b3] at hcut0
      have hpl := part_len HLEN.out cy
      obtain ⟨L, hL⟩ : ∃ L, L = partP l0 V y := ⟨_, rfl⟩
      obtain ⟨row, hrow⟩ : ∃ row, row = rowP l0 V y := ⟨_, rfl⟩
      have hrowL : row = L.flatMap pixL := by rw [hrow, hL]; rfl
      have HLV : Aside0 (L.length = V) := ⟨by rw [hL]; exact hpl⟩
      have HLR : Aside0 (∀ p ∈ L, 0 ≤ p ∧ p ≤ 18446744073709551615) := ⟨fun p hp => HRNG.out p (by rw [hL] at hp; exact List.mem_of_mem_take (List.mem_of_mem_drop hp))⟩
      obtain ⟨AL, hAL⟩ : ∃ AL, AL = (if c0 = y * V then A0 else Option.map (fun x => x.add (y * V * 1)) A0) := ⟨_, rfl⟩
      obtain ⟨cL, hcL⟩ : ∃ cL, cL = c0 - y * V := ⟨_, rfl⟩
      have HCL : Aside0 (Kd.C (Kd.int .u64) W AL V L) := ⟨by rw [hAL, hL]; rw [show ((l0.take ((y + 1) * V)).drop (y * V)).length = V from hpl] at hcm; exact hcm⟩
      rw [← hAL, ← hcL] at hcut0
      rw [← hrow] at ho hoS hRR
      have HROW := Aside0.mk hrowL
      have HO0 := Aside0.mk ho
      have HOS := Aside0.mk hoS
      have HR1 := Aside0.mk hR'
      have HRE := Aside0.mk hRR
      clear ho hoS hR' hRR hcm hL hAL hrow hrowL hi hz b1 b2 b3 hpl hcL
      obtain ⟨lo, hlo⟩ : ∃ lo, lo = y * V := ⟨_, rfl⟩
      obtain ⟨y1, hy1⟩ : ∃ y1, y1 = y + 1 := ⟨_, rfl⟩
      obtain ⟨hi, hhi⟩ : ∃ hi, hi = y1 * V := ⟨_, rfl⟩
      rw [← hy1] at b5 b6 hcut0
      rw [← hhi] at b6 hcut0
      rw [← hlo] at b4 hcut0
      have hcut := hcut0
      have HY1 := Aside0.mk hy1
      have HCY := Aside0.mk cy
      clear hlo hhi hy1 cy hcut0
      obtain ⟨wy, rfl⟩ : ∃ x, x = wr := ⟨_, rfl⟩
      have hc_1 := bc_ (v := .int .i64 (V : Int)) HBK.out 1
      go_wp2
      have HWY := Aside0.mk b5
      clear hcut b4 b5 b6 c0_ c0n hc_1
      go_loopg [13, 63] (V + 1) (fun kq v13 v63 w' => ∃ (i : Nat), v63 = .int .i64 (i : Int) ∧ Aside0 (kq + i = V + 1) ∧ Aside0 (i ≤ V) ∧ Aside0 (Kd.R (Kd.int .i64) 3 w' wy.heap.size (fun _ => True) v13 ((L.take i).flatMap pixL)) ∧ Aside0 (Below wy.heap.size wy w'))
      case atStart => exact ⟨0, rfl, ⟨rfl⟩, ⟨Nat.zero_le _⟩, ⟨Kd.R_nil _ _ _ _ _⟩, ⟨Below.refl _ _⟩⟩
      case round =>
        obtain ⟨i, rfl, HKI, HI, HOI, HBI⟩ := hrel
        obtain ⟨k2, rfl⟩ : ∃ q, gk = q + 1 := ⟨gk - 1, by have h1 := HKI.out; have h2 := HI.out; omega⟩
        by_cases ci : i < V
        · have c1_ : decide ((i : Int) < (V : Int)) = true := decide_eq_true (by omega)
          have c1n : decide (i < V) = true := decide_eq_true ci
          have q1 : ((i : Int) < (V : Int)) = True := eq_true (by omega)
          obtain ⟨ad, rfl, hx⟩ := Kd.at_int (Kd.C_below (Kd.C_below HCL.out HBW.out) HBI.out) (i : Int) (by omega) (by omega)
          rw [Int.toNat_natCast] at hx
          have hrd : rd L (i : Int) = L.getD i 0 := by unfold rd; rw [Int.toNat_natCast]
          rw [hrd] at hx
          have hiL : i < L.length := by rw [HLV.out]; exact ci
          have hmem : L.getD i 0 ∈ L := by rw [List.getD_eq_getElem?_getD, List.getElem?_eq_getElem hiL]; exact List.getElem_mem hiL
          have HUP := Aside0.mk (unpack_f _ (HLR.out _ hmem))
          have htn := take_next L i hiL
          have hlb : (((L.take i).flatMap pixL).length + (pixL (L.getD i 0)).length) * 8 ≤ 140737488355328 := by
            have h1 := flat_le3 (L.take i)
            have h2 := pixL_le3 (L.getD i 0)
            have h3 : (L.take i).length ≤ i := List.length_take_le _ _
            have h4 := HV.out
            omega
          have hwi : wrap64 ((i : Int) + 1) = ((i + 1 : Nat) : Int) := by have h4 := HV.out; clear hx hrd htn; unfold wrap64; omega
          have HTN := Aside0.mk htn
          have HLB := Aside0.mk hlb
          have HWI := Aside0.mk hwi
          have HCI := Aside0.mk ci
          clear hmem htn hlb hwi hrd hiL ci
          generalize L.getD i 0 = pv at *
          generalize hxr : (L.take i).flatMap pixL = xr at *
          clear hxr
          go_wp2_with (first | (go_at_call 36; refine (pix_Unpack.calls pv _ _ HUP.out).mono ?_; rintro e w6 ⟨v6, rfl, hV6, hb6⟩; obtain ⟨A6, c6, rfl⟩ := Kd.V_slice hV6; have HRD6 := Aside0.mk (Kd.V_reads' hV6).2.2; have HOI6 := Aside0.mk (Kd.R_below HOI.out hb6); have HBI6 := Aside0.mk (below_step HBI.out hb6); clear hV6 hb6) | ((with_reducible refine gate_builtin (b := .append) (xs := #[.tmp 67, .tmp 69]) rfl ?_); at_builtin; refine Kd.R_append_row (Value.int .i64) (0 : Int) (h1 := fun _ => rfl) (w0 := wy) wy.heap.size rfl (.tmp 67) (.tmp 69) 24 3 (.int .i64 0) 8 rfl Try.underlying24 writeIntInfo rfl (by decide) _ xr (pixL pv) A6 _ c6 (fun _ => True) rfl rfl (fun _ _ => trivial) HOI6.out HRD6.out HBI6.out HBI6.out.size HLB.out ?_; intro v7 w7 ho7 hb7 hg7 hat7; have HOI7 := Aside0.mk ho7; have HBI7 := Aside0.mk hb7; clear ho7 hb7 hg7 hat7))
          go_roundg k2
          case measure => omega
          case rel => exact ⟨i + 1, by rw [HWI.out], ⟨by have := HKI.out; omega⟩, ⟨HCI.out⟩, ⟨by rw [HTN.out]; exact HOI7.out⟩, HBI7⟩
        · have c1_ : decide ((i : Int) < (V : Int)) = false := decide_eq_false (by omega)
          have c1n : decide (i < V) = false := decide_eq_false ci
          have hxe : (L.take i).flatMap pixL = row := by rw [HROW.out, show i = L.length from by have h1 := HI.out; have h2 := HLV.out; omega, List.take_length]
          have HO1 : Aside0 (Kd.R (Kd.int .i64) 3 wr wy.heap.size (fun _ => True) u13 row) := ⟨by rw [← hxe]; exact HOI.out⟩
          clear hxe HOI
          have BKI := Aside0.mk (blk_below HBK.out HBI.out)
          have hc_0 := bc_ (v := .int .i64 k) BKI.out 0
          go_upto_if 74 with (fail)
          go_cut [12] from 49 to 115 (fun s12 wc => Aside0 (Kd.R (Kd.int .u8) 5 wc wy.heap.size (fun _ => True) s12 o) ∧ Aside0 (k = 4 ∨ (k ≠ 4 ∧ o = [] ∧ s12 = .slice none 0 0)) ∧ Aside0 (Kd.R (Kd.int .i64) 3 wc wy.heap.size (fun _ => True) u13 row) ∧ Aside0 (Below wy.heap.size wy wc))
          case first =>
            by_cases hk4 : k = 4
            · have e0 : (k == 4) = true := beq_iff_eq.2 hk4
              have ho := HO0.out
              unfold own0P at ho
              rw [if_pos hk4] at ho
              obtain ⟨⟨o1, o2⟩, hpk, ho⟩ := Option.bind_eq_some_iff.mp ho
              obtain rfl := Option.some.inj ho
              have HPK := Aside0.mk hpk
              have HK4 := Aside0.mk hk4
              obtain ⟨A13, c13, rfl⟩ := Kd.R_slice HO1.out
              have HR13 := Aside0.mk (Kd.R_reads' HO1.out).2.2
              have HC13 := Aside0.mk (Kd.R_reads' HO1.out).2.1
              clear hpk hk4 ho
              go_wp2_with (first | (go_at_call 37; refine (bits_Pack.calls 5000 A13 c13 row o1 o2 _ HR13.out HC13.out HPK.out).mono ?_; rintro e w8 ⟨v8, rfl, hR8, hb8⟩; have HR8 := Aside0.mk (Kd.R_lower hR8 HBI.out.size); have HO8 := Aside0.mk (Kd.R_below HO1.out hb8); have HB8 := Aside0.mk (below_step HBI.out hb8); clear hR8 hb8))
              go_meet
              exact ⟨HR8, ⟨.inl HK4.out⟩, HO8, HB8⟩
            · have e0 : (k == 4) = false := beq_eq_false_iff_ne.2 hk4
              have ho := HO0.out
              unfold own0P at ho
              rw [if_neg hk4] at ho
              obtain rfl := Option.some.inj ho
              have HK4 := Aside0.mk hk4
              clear hk4 ho
              go_wp2
              go_meet
              exact ⟨⟨Kd.R_nil _ _ _ _ _⟩, ⟨.inr ⟨HK4.out, by first | rfl | trivial, by first | rfl | trivial⟩⟩, HO1, HBI⟩
          case rest =>
            obtain ⟨HOW, HKO, HO2, HBC⟩ := hcut
            clear HO1 HBI hc_0 BKI
            obtain ⟨A13, c13, rfl⟩ := Kd.R_slice HO2.out
            have HRC := Aside0.mk (Kd.R_reads' HO2.out).2.2
            have BKC := Aside0.mk (blk_below HBK.out HBC.out)
            have HRB : Aside0 (∀ x ∈ row, 0 ≤ x ∧ x ≤ 65535) := ⟨fun x hx => by
              rw [HROW.out] at hx
              obtain ⟨p, hp, hx⟩ := List.mem_flatMap.1 hx
              exact pixL_0 p (HLR.out p hp).1 x hx⟩
            have HRL : Aside0 (row.length ≤ 90) := ⟨by
              have h1 := flat_le3 L
              have h2 := HLV.out
              have h3 := HV.out
              rw [HROW.out]
              omega⟩
            clear HO2
            go_wp2
            go_loopg [12, 82] (row.length + 1) (fun kq v12 v82 w' => ∃ (j B : Nat), v82 = .int .i64 (j : Int) ∧ Aside0 (kq + j = row.length + 1) ∧ Aside0 (j ≤ row.length) ∧ Aside0 (wy.heap.size ≤ B ∧ (k ≠ 4 → B = wc.heap.size)) ∧ Aside0 (Kd.R (Kd.int .u8) 5 w' B (fun _ => True) v12 (o ++ (row.take j).flatMap (wrB k m))) ∧ Aside0 (Below wc.heap.size wc w'))
            case atStart =>
              rcases HKO.out with h4 | ⟨h4, ho, hu12⟩
              · exact ⟨0, wy.heap.size, rfl, ⟨rfl⟩, ⟨Nat.zero_le _⟩, ⟨Nat.le_refl _, fun h => absurd h4 h⟩, ⟨by rw [List.take_zero, List.flatMap_nil, List.append_nil]; exact HOW.out⟩, ⟨Below.refl _ _⟩⟩
              · exact ⟨0, wc.heap.size, rfl, ⟨rfl⟩, ⟨Nat.zero_le _⟩, ⟨HBC.out.size, fun _ => rfl⟩, ⟨by rw [List.take_zero, List.flatMap_nil, List.append_nil, ho, hu12]; exact Kd.R_nil _ _ _ _ _⟩, ⟨Below.refl _ _⟩⟩
            case round =>
              obtain ⟨j, B, rfl, HKJ, HJ, HBB, HOJ, HBJ⟩ := hrel
              obtain ⟨k3, rfl⟩ : ∃ q, gk = q + 1 := ⟨gk - 1, by have h1 := HKJ.out; have h2 := HJ.out; omega⟩
              have BKJ := Aside0.mk (blk_below BKC.out HBJ.out)
              have hc_0 := bc_ (v := .int .i64 k) BKJ.out 0
              have hc_1 := bc_ (v := .int .i64 (V : Int)) BKJ.out 1
              have hc_2 := bc_ (v := .int .i64 (H : Int)) BKJ.out 2
              have hc_3 := bc_ (v := .int .i64 m) BKJ.out 3
              by_cases cj : j < row.length
              · have c2_ : decide ((j : Int) < (row.length : Int)) = true := decide_eq_true (by omega)
                have c2n : decide (j < row.length) = true := decide_eq_true cj
                have q2 : ((j : Int) < (row.length : Int)) = True := eq_true (by omega)
                obtain ⟨ad, rfl, hx⟩ := Kd.at_int (Kd.C_below HRC.out HBJ.out) (j : Int) (by omega) (by omega)
                rw [Int.toNat_natCast] at hx
                have hrd : rd row (j : Int) = row.getD j 0 := by unfold rd; rw [Int.toNat_natCast]
                rw [hrd] at hx
                have hmem : row.getD j 0 ∈ row := by rw [List.getD_eq_getElem?_getD, List.getElem?_eq_getElem cj]; exact List.getElem_mem cj
                have HSB2 := Aside0.mk (HRB.out _ hmem)
                have HTN : Aside0 ((row.take (j + 1)).flatMap (wrB k m) = (row.take j).flatMap (wrB k m) ++ wrB k m (row.getD j 0)) := ⟨by
                  rw [List.take_add_one, List.flatMap_append, List.getD_eq_getElem?_getD, List.getElem?_eq_getElem cj]
                  simp⟩
                have HWI : Aside0 (wrap64 ((j : Int) + 1) = ((j + 1 : Nat) : Int)) := ⟨by have h4 := HRL.out; clear hx hrd; unfold wrap64; omega⟩
                have HCJ := Aside0.mk cj
                have HLJ0 : Aside0 ((o ++ (row.take j).flatMap (wrB k m)).length ≤ 1000) := ⟨by
                  have h1 := HOS.out
                  have h2 := HSB.out.2
                  have h3 := flat_take (wrB k m) row j
                  rw [List.length_append] at h1 ⊢
                  omega⟩
                clear hmem hrd cj
                generalize row.getD j 0 = sv at *
                by_cases hk4 : k = 4
                · have e0 : (k == 4) = true := beq_iff_eq.2 hk4
                  have HWR : Aside0 (wrB k m sv = []) := ⟨by unfold wrB; rw [if_pos hk4]⟩
                  clear hk4
                  go_wp2
                  go_roundg k3
                  case measure => omega
                  case rel => exact ⟨j + 1, B, by rw [HWI.out], ⟨by have := HKJ.out; omega⟩, ⟨HCJ.out⟩, HBB, ⟨by rw [HTN.out, HWR.out, List.append_nil]; exact HOJ.out⟩, HBJ⟩
                · have e0 : (k == 4) = false := beq_eq_false_iff_ne.2 hk4
                  obtain rfl := HBB.out.2 hk4
                  by_cases hm2 : m > 255
                  · have HW : Aside0 (raw_wide.f k (V : Int) (H : Int) m = some 2) := ⟨by unfold raw_wide.f; rw [if_pos hm2]⟩
                    have HLJ : Aside0 (((o ++ (row.take j).flatMap (wrB k m)).length + 2) * 1 ≤ 140737488355328) := ⟨by have := HLJ0.out; omega⟩
                    have HWR : Aside0 (wrB k m sv = [sv / 256 % 256, sv % 256]) := ⟨by unfold wrB; rw [if_neg hk4, if_pos hm2]⟩
                    clear hk4 hm2
                    go_wp2_with (first | (go_at_call 38; refine (raw_wide.calls _ _ _ _ _ _ HW.out).mono ?_; rintro e w9 ⟨rfl, hb9⟩; have HOJ9 := Aside0.mk (Kd.R_alloc (Kd.R_below HOJ.out hb9) (.cells #[.int .u8 (sv / 256 % 256), .int .u8 (sv % 256)] 5)); have HBJ9 := Aside0.mk (below_alloc (below_step HBJ.out hb9) (.cells #[.int .u8 (sv / 256 % 256), .int .u8 (sv % 256)] 5)); have HRX := Aside0.mk (C_new2 w9 (sv / 256 % 256) (sv % 256)); clear hb9) | ((with_reducible refine gate_builtin (b := .append) (xs := #[.tmp 86, .tmp 92]) rfl ?_); at_builtin; refine Kd.R_append_row (Value.int .u8) (0 : Int) (h1 := fun _ => rfl) (w0 := wc) wc.heap.size rfl (.tmp 86) (.tmp 92) 27 5 (.int .u8 0) 1 rfl Try.underlying27 raw_byteInfo rfl (by decide) u12 (o ++ (row.take j).flatMap (wrB k m)) [sv / 256 % 256, sv % 256] (some ⟨w9.heap.size, 0, none⟩) 2 2 (fun _ => True) rfl rfl (fun _ _ => trivial) HOJ9.out HRX.out HBJ9.out HBJ9.out.size HLJ.out ?_; intro v10 w10 ho10 hb10 hg10 hat10; have HOJ10 := Aside0.mk ho10; have HBJ10 := Aside0.mk hb10; clear ho10 hb10 hg10 hat10))
                    go_roundg k3
                    case measure => omega
                    case rel => exact ⟨j + 1, wc.heap.size, by rw [HWI.out], ⟨by have := HKJ.out; omega⟩, ⟨HCJ.out⟩, ⟨HBC.out.size, fun _ => rfl⟩, ⟨by rw [HTN.out, HWR.out, ← List.append_assoc]; exact HOJ10.out⟩, HBJ10⟩
                  · have HW : Aside0 (raw_wide.f k (V : Int) (H : Int) m = some 1) := ⟨by unfold raw_wide.f; rw [if_neg hm2]⟩
                    have HLJ : Aside0 (((o ++ (row.take j).flatMap (wrB k m)).length + 1) * 1 ≤ 140737488355328) := ⟨by have := HLJ0.out; omega⟩
                    have HWR : Aside0 (wrB k m sv = [sv % 256]) := ⟨by unfold wrB; rw [if_neg hk4, if_neg hm2]⟩
                    clear hk4 hm2
                    go_wp2_with (first | (go_at_call 38; refine (raw_wide.calls _ _ _ _ _ _ HW.out).mono ?_; rintro e w9 ⟨rfl, hb9⟩; have HOJ9 := Aside0.mk (Kd.R_alloc (Kd.R_below HOJ.out hb9) (.cells #[.int .u8 (sv % 256)] 5)); have HBJ9 := Aside0.mk (below_alloc (below_step HBJ.out hb9) (.cells #[.int .u8 (sv % 256)] 5)); have HRX := Aside0.mk (C_new1 w9 (sv % 256)); clear hb9) | ((with_reducible refine gate_builtin (b := .append) (xs := #[.tmp 102, .tmp 105]) rfl ?_); at_builtin; refine Kd.R_append_row (Value.int .u8) (0 : Int) (h1 := fun _ => rfl) (w0 := wc) wc.heap.size rfl (.tmp 102) (.tmp 105) 27 5 (.int .u8 0) 1 rfl Try.underlying27 raw_byteInfo rfl (by decide) u12 (o ++ (row.take j).flatMap (wrB k m)) [sv % 256] (some ⟨w9.heap.size, 0, none⟩) 1 1 (fun _ => True) rfl rfl (fun _ _ => trivial) HOJ9.out HRX.out HBJ9.out HBJ9.out.size HLJ.out ?_; intro v10 w10 ho10 hb10 hg10 hat10; have HOJ10 := Aside0.mk ho10; have HBJ10 := Aside0.mk hb10; clear ho10 hb10 hg10 hat10))
                    go_roundg k3
                    case measure => omega
                    case rel => exact ⟨j + 1, wc.heap.size, by rw [HWI.out], ⟨by have := HKJ.out; omega⟩, ⟨HCJ.out⟩, ⟨HBC.out.size, fun _ => rfl⟩, ⟨by rw [HTN.out, HWR.out, ← List.append_assoc]; exact HOJ10.out⟩, HBJ10⟩
              · have c2_ : decide ((j : Int) < (row.length : Int)) = false := decide_eq_false (by omega)
                have c2n : decide (j < row.length) = false := decide_eq_false cj
                have hje : row.take j = row := List.take_of_length_le (by omega)
                obtain ⟨F, hF⟩ : ∃ F, F = o ++ row.flatMap (wrB k m) := ⟨_, rfl⟩
                have HFL : Aside0 (F.length = S) := ⟨by rw [hF]; exact HOS.out⟩
                have HRF : Aside0 (R = F ++ R') := ⟨by rw [hF]; exact HRE.out⟩
                have HFO : Aside0 (Kd.R (Kd.int .u8) 5 wr wy.heap.size (fun _ => True) u12 F) := ⟨by
                  rw [hF]
                  have := Kd.R_lower HOJ.out HBB.out.1
                  rw [hje] at this
                  exact this⟩
                have HBR := Aside0.mk (below_then HBC.out HBC.out.size HBJ.out)
                obtain ⟨off, hoff⟩ : ∃ off, off = y * S := ⟨_, rfl⟩
                obtain ⟨f1, f2, f3, f4⟩ := off_bounds S H N y HSB.out.2 HH.out.2 HCY.out HNN.out
                rw [← hoff] at f1 f2 f3 f4
                have HF4 := Aside0.mk f4
                clear f4
                obtain ⟨i1, hi1, hz1⟩ := Option.map_eq_some_iff.1 raw_byteInfo
                simp only [Prod.mk.injEq] at hz1
                have hcut2 := cut_from (P := Try.prog) 27 5 .i64 Try.underlying27 hi1 1 hz1.2.1 (some ⟨w5.heap.size, 0, none⟩) N N (off : Int) (Int.natCast_nonneg _) (Int.ofNat_le.2 (by have := HSB.out.1; omega))
                have hne : ¬ N = off := by have := HSB.out.1; omega
                rw [Int.toNat_natCast, if_neg hne, Nat.mul_one, Option.map_some, addr_at] at hcut2
                have HDO : Aside0 (D.length = off) := ⟨by rw [hoff]; exact HD.out⟩
                have HF1 := Aside0.mk f1
                have HF2 := Aside0.mk f2
                have HF3 := Aside0.mk f3
                obtain ⟨ad2, c12, rfl⟩ := R_some HFO.out (by have h1 := HFL.out; have h2 := HSB.out.1; omega)
                rw [HFL.out] at HFO ⊢
                have HSC : Aside0 (∀ (W_ : World), Below wr.heap.size wr W_ → ∀ (i : Nat) (u : Value), (F.map (Value.int .u8))[i]? = some u → W_.cell? (ad2.add i) = some u) := ⟨fun W_ hb i u hu => by
                  have h1 := (Kd.R_reads' HFO.out).2.2
                  obtain ⟨_, _, h2⟩ := Kd.reads_of_C (d := (0 : Int)) (Kd.C_below h1 hb)
                  have hl : i < F.length := by
                    have := (List.getElem?_eq_some_iff.1 hu).1
                    rwa [List.length_map] at this
                  obtain ⟨ad', e1, h3⟩ := h2 (by omega)
                  obtain rfl := Option.some.inj e1
                  rw [h3 i hl, ← hu, List.getElem?_map, List.getElem?_eq_getElem hl, List.getD_eq_getElem?_getD, List.getElem?_eq_getElem hl]
                  rfl⟩
                have HN1 : Aside0 ((F.map (Value.int .u8)).length = Nat.min S (N - off)) := ⟨by rw [List.length_map, HFL.out]; exact (Nat.min_eq_left (by have := HF1.out; omega)).symm⟩
                have HFIT : Aside0 (off + (F.map (Value.int .u8)).length ≤ ((D ++ List.replicate (N - y * S) 0).map (Value.int .u8)).length) := ⟨by rw [List.length_map, List.length_map, HFL.out, List.length_append, List.length_replicate, HDO.out, ← hoff]; have := HF1.out; omega⟩
                have HONE : Aside0 (∀ u ∈ F.map (Value.int .u8), u.oneCell' = true) := ⟨fun u hu => by obtain ⟨x, _, rfl⟩ := List.mem_map.1 hu; rfl⟩
                have HSPL := Aside0.mk (splice_row D F (N - y * S) off HDO.out)
                have HBWR := Aside0.mk (below_then HBW.out HBW.out.size HBR.out)
                have HBOR := Aside0.mk (blk_below HBO.out HBR.out)
                have f4 := HF4.out
                clear HOJ hF hoff f1 f2 f3 hi1 hz1 hne hje cj HBK HBO HRC BKC
                go_wp2_with (first | (go_at_call 26; refine (raw_Stride.calls _ _ _ _ _ _ HST.out).mono ?_; rintro e w9 ⟨rfl, hb9⟩; have HB9 := Aside0.mk hb9; have HBO9 := Aside0.mk (blk_below HBOR.out hb9); have HBK9 := Aside0.mk (blk_below BKJ.out hb9); have HBW9 := Aside0.mk (below_step HBWR.out hb9); clear hb9) | ((with_reducible refine gate_dst (N := 115) rfl ?_); refine wpList_copy_splice rfl (.tmp 113) (.tmp 114) 27 27 rfl 5 Try.underlying27 writeByteSize (some ⟨w5.heap.size, off, none⟩) (some ad2) (N - off) (N - off) S c12 rfl rfl w5.heap.size off _ 5 HBO9.out (F.map (Value.int .u8)) HN1.out (fun _ => ⟨rfl, ad2, rfl, HSC.out _ HB9.out⟩) HFIT.out HONE.out w5.heap.size w9 (Below.refl _ _) (Nat.le_refl _) ?_; intro w10 hg10 hb10; have HG10 := Aside0.mk hg10; have HBK10 := Aside0.mk ((hb10.block _ HGO1.out).trans HBK9.out); have HBW10 := Aside0.mk (HBW9.out.trans (hb10.mono HGO.out)); clear hg10 hb10))
                go_roundg k1
                case measure => omega
                case rel => exact ⟨y1, D ++ F, R', by rw [HWY.out], ⟨by have h1 := HKQ.out; have h2 := HY1.out; omega⟩, ⟨by have h1 := HCY.out; have h2 := HY1.out; omega⟩, ⟨by rw [HY1.out]; exact HR1.out⟩, ⟨by rw [HRD.out, HRF.out, List.append_assoc]⟩, ⟨by rw [HY1.out, HF2.out, List.length_append, HDO.out, HFL.out]⟩, ⟨by
                  have h1 := HG10.out
                  rw [HSPL.out] at h1
                  have h2 : N - y1 * S = N - y * S - F.length := by rw [HY1.out, ← HF3.out, HFL.out, HDO.out.symm, HD.out]
                  rw [h2]
                  exact h1⟩, HBK10, HBW10⟩
    · have c0_ : decide ((y : Int) < (H : Int)) = false := decide_eq_false (by omega)
      have c0n : decide (y < H) = false := decide_eq_false cy
      have hR := rowsP_off cy HRR.out
      have hyH : y = H := by have := HY.out; omega
      have hrD : r = D := by rw [HRD.out, hR, List.append_nil]
      have hDN : D.length = N := by rw [HD.out, HNN.out, hyH, Nat.mul_comm]
      have hcell : wr.heap[w5.heap.size]? = some (.cells (D.map (Value.int .u8)).toArray 5 (0, 0)) := by
        have h1 := HBO.out
        rw [show N - y * S = 0 by rw [← HD.out, hDN]; omega, List.replicate_zero, List.append_nil] at h1
        exact h1
      have HRR2 := Aside0.mk (R_of_cells (base := W.heap.size) D hcell HGO.out (by rw [hDN]; have := HSH.out; simp only [maxLen]; omega))
      rw [hDN] at HRR2
      subst hrD
      clear hR hyH hDN hcell cy
      go_wp2
      go_ret2
      exact ⟨_, rfl, HRR2.out, HBW.out⟩
theorem raw_Write.calls (A0 : Option Addr) (c0 : Nat) (l0 : List Int) (a1_0 a1_1 a1_2 a1_3 : Int) (r1 : List Int) (r2 : Int) (w : World) (hr0 : Kd.C (Kd.int .u64) w A0 l0.length l0) (hc0 : l0.length ≤ c0) (h : raw_Write.f l0 a1_0 a1_1 a1_2 a1_3 = some (r1, r2)) :
    Calls Try.prog 10 #[.slice A0 l0.length c0, .agg #[.int .i64 a1_0, .int .i64 a1_1, .int .i64 a1_2, .int .i64 a1_3]] w fun e w' => ∃ v0_ : Value, e = .returned (.tuple #[v0_, .int .i64 r2]) ∧ Kd.R (Kd.int .u8) 5 w' w.heap.size (fun _ => True) v0_ r1 ∧ Below w.heap.size w w' := by
  unfold raw_Write.f at h
  split at h
  rotate_left
  · simp at h
  rename_i hh
  obtain ⟨hmay, hw, hh4⟩ := hh
  have hm := rawMay_is hmay
  obtain ⟨V, rfl⟩ : ∃ V : Nat, a1_1 = (V : Int) := ⟨a1_1.toNat, by omega⟩
  obtain ⟨H, rfl⟩ : ∃ H : Nat, a1_2 = (H : Int) := ⟨a1_2.toNat, by omega⟩
  have hV : 1 ≤ V ∧ V ≤ 30 := by omega
  have hH : 1 ≤ H ∧ H ≤ 4 := by omega
  rw [Int.toNat_natCast, Int.toNat_natCast] at h
  have hf := form_is hmay
  have hn : raw_New.f a1_0 (V : Int) (H : Int) a1_3 = some (a1_0, (V : Int), (H : Int), a1_3, 0, 0, 0, 0, 0, 0) := by unfold raw_New.f; rw [if_pos hmay]
  have hvh := write_vh V H hV.2 hH.2
  split at h
  rotate_left
  · rename_i hlen
    simp only [Option.some.injEq, Prod.mk.injEq] at h
    obtain ⟨rfl, rfl⟩ := h
    refine (raw_Write.short A0 c0 l0 a1_0 a1_3 _ V H w hf hn _ hvh (fun e => hlen (Int.ofNat.inj e))).mono ?_
    rintro e w' ⟨rfl, hb⟩
    exact ⟨_, rfl, Kd.R_nil _ _ _ _ _, hb⟩
  rename_i hlen
  obtain ⟨bad, hbad, h⟩ := Option.bind_eq_some_iff.mp h
  have hlen2 : wrap64 ((V : Int) * (H : Int)) = (l0.length : Int) := by rw [hvh, hlen]
  cases bad with
  | true =>
    rw [if_pos rfl] at h
    simp only [Option.some.injEq, Prod.mk.injEq] at h
    obtain ⟨rfl, rfl⟩ := h
    refine (raw_Write.bad A0 c0 l0 a1_0 a1_3 _ V H w hf hn hr0 hc0 hlen2 hbad).mono ?_
    rintro e w' ⟨rfl, hb⟩
    exact ⟨_, rfl, Kd.R_nil _ _ _ _ _, hb⟩
  | false =>
    rw [if_neg (by decide)] at h
    obtain ⟨r, hr, h⟩ := Option.bind_eq_some_iff.mp h
    simp only [Option.some.injEq, Prod.mk.injEq] at h
    obtain ⟨rfl, rfl⟩ := h
    have hSb : 1 ≤ rawS a1_0 (V : Int) a1_3 ∧ rawS a1_0 (V : Int) a1_3 ≤ 180 := by
      clear hvh hlen2 h hf
      unfold rawS sampW
      split
      · omega
      · split <;> split <;> omega
    exact raw_Write.good A0 c0 l0 a1_0 a1_3 _ V H w hf hn hr0 hc0 hlen2 hbad _ _ r (size_is hmay hV.2 hH.2) (raw_stride_is hmay) hSb rfl hV hH ⟨hm.1, hm.2.1, hm.2.2.2.2.2.2.1, hm.2.2.2.2.2.2.2.1⟩ hlen hr
end Go.Proofs.Ytdjonaajfhbfhaa.Q
