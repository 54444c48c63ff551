/- A raster's reader is told a byte. -/
import Derived.Test.YtdjonaajfhbfhaaQ0
import Derived.Test.YtdjonaajfhbfhaaQ4
import Derived.Test.YtdjonaajfhbfhaaIbits_Unpack
import Derived.Test.YtdjonaajfhbfhaaQ17
import Derived.Test.YtdjonaajfhbfhaaIraw_Reader_row
import Derived.Below
import Derived.Deep.Draws
import Derived.Deep.AppendLies
import Derived.Maps.AppendAt
import Derived.OwnWalk
import Derived.Laws.BytesArg
import Derived.Laws.MakeOwn
import Derived.Laws.OwnMore
import Derived.Deep.OwnRows
import Derived.Tactics
import Derived.Lib.ConvBytes
import Derived.Laws.Slices
import Derived.WalkKit
import Derived.KernelRfl
import Derived.RowKit3
import Derived.Deep.LoopGhost
import Derived.Deep.QuietTactic
import Derived.BigQuiet
import Derived.WideLaws
import Derived.Deep.DeepCutAuto
import Derived.Deep.CutBlock
import Derived.Deep.RegionHeld3
import Derived.Laws.Rows
import Derived.Lib.AppendStr
import Derived.ArgAppend
import Derived.Laws.IdiomCopy
import Derived.OrdersHeld
import Derived.Laws.BitsLemmas
import Derived.RowKit
import Derived.Test.YtdjonaajfhbfhaaMore
import Derived.Test.YtdjonaajfhbfhaaPeel
import Derived.Test.YtdjonaajfhbfhaaRaw
import Derived.Scope
import Derived.Test.YtdjonaajfhbfhaaWWords
import Derived.Test.YtdjonaajfhbfhaaWLast
import Derived.Test.YtdjonaajfhbfhaaWTab
import Derived.Test.YtdjonaajfhbfhaaWQPut
import Derived.Test.YtdjonaajfhbfhaaWApart
import Derived.Test.YtdjonaajfhbfhaaWArr
import Derived.Test.YtdjonaajfhbfhaaWZeros
import Derived.Test.YtdjonaajfhbfhaaWFoot
import Derived.Test.YtdjonaajfhbfhaaWKept
import Derived.Test.YtdjonaajfhbfhaaWShare
import Derived.Test.YtdjonaajfhbfhaaWN
import Derived.Test.YtdjonaajfhbfhaaWFootNe
import Derived.Test.YtdjonaajfhbfhaaWAt
import Derived.Test.YtdjonaajfhbfhaaWGuard
import Derived.Test.YtdjonaajfhbfhaaWNEv
import Derived.Test.YtdjonaajfhbfhaaWMore
import Derived.Deep.Cut
import Derived.Deep.RegionWith
import Derived.StillTailTactics
import Derived.BigQuiet
import Derived.Deep.QuietTactic
import Derived.Deep.RegionHeld3
namespace Go.Proofs.Ytdjonaajfhbfhaa.Q
open Go.RowKit Go.Proofs.YtdjonaajfhbfhaaW.PrintWords Go.Proofs.YtdjonaajfhbfhaaW.PrintLast Go.Proofs.YtdjonaajfhbfhaaW.PrintMore
set_option linter.unusedVariables false
set_option linter.unusedSimpArgs false
/-- How a reader's two blocks stand while it is told a byte. -/
structure Stage (w0 w : World) (g gb : Nat) (h0 h1 h2 h3 : Int) (b : List Int) (n rows last e : Int) (W : World) : Prop where
  obj : W.heap[g]? = some (rawObj h0 h1 h2 h3 (some ⟨gb, 0, none⟩) b.length b.length n rows last e)
  row : W.heap[gb]? = some (.cells (b.map (Value.int .u8)).toArray 5 (0, 0))
  keep : KeepBut w W g (some gb)
  below : Below w0.heap.size w0 W
section
variable {w0 w W W1 : World} {g gb : Nat} {h0 h1 h2 h3 : Int} {b : List Int} {n rows last e : Int}
theorem Stage.below' (s : Stage w0 w g gb h0 h1 h2 h3 b n rows last e W) (h : Below W.heap.size W W1) : Stage w0 w g gb h0 h1 h2 h3 b n rows last e W1 :=
  ⟨blk_below s.obj h, blk_below s.row h, KeepBut.trans s.keep (KeepBut.of_below h g (some gb)) (.inl rfl), below_step s.below h⟩
theorem Stage.drew (s : Stage w0 w g gb h0 h1 h2 h3 b n rows last e W) : Stage w0 w g gb h0 h1 h2 h3 b n rows last e W.drew := s.below' (below_drew (Below.refl _ _))
theorem Stage.set_n (s : Stage w0 w g gb h0 h1 h2 h3 b n rows last e W) (hg : w0.heap.size ≤ g) (hne : gb ≠ g) (x : Int) : Stage w0 w g gb h0 h1 h2 h3 b x rows last e (W.setCell ⟨g, 5, none⟩ (.int .i64 x)) :=
  ⟨blk_set s.obj 5 _, blk_far s.row hne _, KeepBut.set_ s.keep 5 _, below_set s.below hg⟩
theorem Stage.set_rows (s : Stage w0 w g gb h0 h1 h2 h3 b n rows last e W) (hg : w0.heap.size ≤ g) (hne : gb ≠ g) (x : Int) : Stage w0 w g gb h0 h1 h2 h3 b n x last e (W.setCell ⟨g, 6, none⟩ (.int .i64 x)) :=
  ⟨blk_set s.obj 6 _, blk_far s.row hne _, KeepBut.set_ s.keep 6 _, below_set s.below hg⟩
theorem Stage.set_last (s : Stage w0 w g gb h0 h1 h2 h3 b n rows last e W) (hg : w0.heap.size ≤ g) (hne : gb ≠ g) (x : Int) : Stage w0 w g gb h0 h1 h2 h3 b n rows x e (W.setCell ⟨g, 7, none⟩ (.int .i64 x)) :=
  ⟨blk_set s.obj 7 _, blk_far s.row hne _, KeepBut.set_ s.keep 7 _, below_set s.below hg⟩
theorem Stage.set_e (s : Stage w0 w g gb h0 h1 h2 h3 b n rows last e W) (hg : w0.heap.size ≤ g) (hne : gb ≠ g) (x : Int) : Stage w0 w g gb h0 h1 h2 h3 b n rows last x (W.setCell ⟨g, 8, none⟩ (.int .i64 x)) :=
  ⟨blk_set s.obj 8 _, blk_far s.row hne _, KeepBut.set_ s.keep 8 _, below_set s.below hg⟩
theorem Stage.set_b (s : Stage w0 w g gb h0 h1 h2 h3 b n rows last e W) (hg : w0.heap.size ≤ gb) (hne : g ≠ gb) (i : Nat) (x : Int) : Stage w0 w g gb h0 h1 h2 h3 (b.set i x) n rows last e (W.setCell ⟨gb, i, none⟩ (.int .u8 x)) := by
  refine ⟨?_, ?_, ⟨?_, ?_⟩, below_set s.below hg⟩
  · rw [List.length_set]
    exact blk_far s.obj hne _
  · have h := blk_set s.row i (.int .u8 x)
    rw [h]
    simp [List.map_set]
  · exact Nat.le_trans s.keep.1 (KeepBut.set_ (KeepBut.refl W gb none) i (.int .u8 x)).1
  · intro k hk h1 h2
    exact (Below.heap_setCell W ⟨gb, i, none⟩ _ k (fun e => h2 (by rw [e]))).trans (s.keep.2 k hk h1 h2)
theorem Stage.c0 (s : Stage w0 w g gb h0 h1 h2 h3 b n rows last e W) : W.cell? ⟨g, 0, none⟩ = some (.int .i64 h0) := blk_cell s.obj 0
theorem Stage.c1 (s : Stage w0 w g gb h0 h1 h2 h3 b n rows last e W) : W.cell? ⟨g, 1, none⟩ = some (.int .i64 h1) := blk_cell s.obj 1
theorem Stage.c2 (s : Stage w0 w g gb h0 h1 h2 h3 b n rows last e W) : W.cell? ⟨g, 2, none⟩ = some (.int .i64 h2) := blk_cell s.obj 2
theorem Stage.c3 (s : Stage w0 w g gb h0 h1 h2 h3 b n rows last e W) : W.cell? ⟨g, 3, none⟩ = some (.int .i64 h3) := blk_cell s.obj 3
theorem Stage.c4 (s : Stage w0 w g gb h0 h1 h2 h3 b n rows last e W) : W.cell? ⟨g, 4, none⟩ = some (.slice (some ⟨gb, 0, none⟩) b.length b.length) := blk_cell s.obj 4
theorem Stage.c5 (s : Stage w0 w g gb h0 h1 h2 h3 b n rows last e W) : W.cell? ⟨g, 5, none⟩ = some (.int .i64 n) := blk_cell s.obj 5
theorem Stage.c6 (s : Stage w0 w g gb h0 h1 h2 h3 b n rows last e W) : W.cell? ⟨g, 6, none⟩ = some (.int .i64 rows) := blk_cell s.obj 6
theorem Stage.c7 (s : Stage w0 w g gb h0 h1 h2 h3 b n rows last e W) : W.cell? ⟨g, 7, none⟩ = some (.int .i64 last) := blk_cell s.obj 7
theorem Stage.c8 (s : Stage w0 w g gb h0 h1 h2 h3 b n rows last e W) : W.cell? ⟨g, 8, none⟩ = some (.int .i64 e) := blk_cell s.obj 8
theorem Stage.fz (s : Stage w0 w g gb h0 h1 h2 h3 b n rows last e W) (i : Nat) : W.frozen? ⟨g, i, none⟩ = false := blk_frozen s.obj i
theorem Stage.fr (s : Stage w0 w g gb h0 h1 h2 h3 b n rows last e W) (i : Nat) : W.frozen? ⟨gb, i, none⟩ = false := blk_frozen s.row i
theorem Stage.cb (s : Stage w0 w g gb h0 h1 h2 h3 b n rows last e W) (i : Nat) (hi : i < b.length) : W.cell? ⟨gb, i, none⟩ = some (.int .u8 (b.getD i 0)) := by
  rw [blk_cell s.row i]
  simp [List.getD_eq_getElem?_getD, List.getElem?_eq_getElem hi]
theorem Stage.reads (s : Stage w0 w g gb h0 h1 h2 h3 b n rows last e W) (hl : b.length ≤ 100000) : Kd.C (Kd.int .u8) W (some ⟨gb, 0, none⟩) b.length b := by
  refine Kd.C_of_reads (d := (0 : Int)) ⟨rfl, by omega, fun _ => ⟨_, rfl, fun i hi => ?_⟩⟩
  have := s.cb i hi
  rw [show (⟨gb, 0, none⟩ : Addr).add i = ⟨gb, i, none⟩ from by cases i <;> simp [Addr.add]]
  exact this
end
/-- The row's pixels out of its bytes. -/
def rowD (k : Int) : Nat := if k = 6 then 3 else 1
def raw_row.f (h0 h1 h3 : Int) (b : List Int) : Option (List Int) := if ((List.range h1.toNat).all fun k => (pix_Pack.f 10 (partL (rowL h0 h1 h3 b) (rowD h0) k)).isSome) = true then some ((List.range h1.toNat).map fun k => ((pix_Pack.f 10 (partL (rowL h0 h1 h3 b) (rowD h0) k)).getD (0, 0)).1) else none
theorem rowL_len {h0 h1 h2 h3 : Int} {b : List Int} (e : rawMay h0 h1 h2 h3 = true) (hb : b.length = rawS h0 h1 h3) : (rowL h0 h1 h3 b).length = h1.toNat * rowD h0 := by
  have h := rawMay_is e
  unfold rowL rowD
  unfold rawS at hb
  by_cases h4 : h0 = 4
  · rw [if_pos h4, bits_row_len, if_neg (by omega), Nat.mul_one]
  · rw [if_neg h4] at hb ⊢
    rw [List.length_map, List.length_range, hb, Nat.mul_div_cancel]
    unfold sampW
    split <;> decide
theorem raw_row.calls {h0 h1 h2 h3 : Int} (g : Nat) (A : Option Addr) (c : Nat) (b : List Int) (n rows last e : Int) (r : List Int) (w : World) (hm : rawMay h0 h1 h2 h3 = true) (hb : w.heap[g]? = some (rawObj h0 h1 h2 h3 A b.length c n rows last e)) (hr : Kd.C (Kd.int .u8) w A b.length b) (hc : b.length ≤ c) (hs : b.length = rawS h0 h1 h3) (hx : byteL b) (h : raw_row.f h0 h1 h3 b = some r) :
    Calls Try.prog 46 #[.pointer (some ⟨g, 0, none⟩)] w fun e_ w' => ∃ v, e_ = .returned v ∧ Kd.R (Kd.int .u64) 26 w' w.heap.size (fun _ => True) v r ∧ Below w.heap.size w w' := by
  have hmay := rawMay_is hm
  have hS := rawS_bound hm
  unfold raw_row.f at h
  split at h
  · rename_i hall
    obtain rfl := Option.some.inj h
    have hD : head_Format.f h0 h1 h2 h3 = some (((rowD h0 : Nat) : Int), h3) := by
      unfold head_Format.f rowD
      by_cases h6 : h0 = 6
      · subst h6; rfl
      · rw [if_neg h6, if_neg (by
          have : h0 = 4 ∨ h0 = 5 := by omega
          rcases this with rfl | rfl <;> decide)]
        rfl
    refine raw_row.is g h0 h1 h2 h3 A c b n rows last e w hb hr hc (by omega) hx (fun h4 => ⟨by omega, by omega, ?_⟩) (rowD h0) h1.toNat hD (by unfold rowD; split <;> omega) (rowL_len hm hs) (by unfold rowD; split <;> omega) _ (fun k hk => ?_)
    · rw [hs]
      unfold rawS
      rw [if_pos h4]
      omega
    · have h2 := List.all_eq_true.1 hall k (List.mem_range.2 hk)
      obtain ⟨x, hx⟩ := Option.isSome_iff_exists.1 h2
      exact ⟨x.2, by rw [hx]; rfl⟩
  · exact absurd h (by simp)
theorem w64_id (x : Int) (h0 : 0 ≤ x) (h1 : x ≤ 1000000) : wrap64 x = x := by unfold wrap64; omega
/-- What was told of a row, and a byte more. -/
def putL (f4 f5 c : Int) : List Int := decB f5.toNat f4 ++ [c]
def raw_Reader_Put.f (f0 f1 f2 f3 f4 f5 f6 f7 f8 c : Int) : Option (List Int × Int × Int × Int × Int × Int × Int × Int × Int × Int × Int) :=
  if f7 ≠ 0 then some ([], f7, f0, f1, f2, f3, f4, f5, f6, f7, f8)
  else if 0 ≤ c ∧ c ≤ 255 then
    if f0 ≠ 4 ∧ (putL f4 f5 c).length % sampW f3 = 0 ∧ sampV f3 (putL f4 f5 c) ((putL f4 f5 c).length / sampW f3 - 1) > f3 then some ([], 2, f0, f1, f2, f3, f4 + c * 256 ^ f5.toNat, f5 + 1, f6, 2, 5)
    else if (putL f4 f5 c).length < rawS f0 f1 f3 then some ([], 0, f0, f1, f2, f3, f4 + c * 256 ^ f5.toNat, f5 + 1, f6, 0, f8)
    else (raw_row.f f0 f1 f3 (putL f4 f5 c)).bind fun r => some (r, if f6 + 1 = f2 then 1 else 0, f0, f1, f2, f3, 0, 0, f6 + 1, if f6 + 1 = f2 then 1 else 0, f8)
  else none
/-- Is the reader wrong with this byte? b: the row's bytes, the first m + 1 of them told. -/
def badB (f0 f3 : Int) (b : List Int) (m : Nat) : Bool := decide (f0 ≠ 4) && (decide ((m + 1) % sampW f3 = 0) && decide (sampV f3 b ((m + 1) / sampW f3 - 1) > f3))
/-- What comes of a byte that a reader is told: it is wrong; or the row goes on; or the row is told. -/
def PutOut (w0 w : World) (gb : Nat) (f0 f1 f2 f3 f6 f8 : Int) (b1 : List Int) (m : Nat) (row : List Int) (e : Ending) (w' : World) : Prop := ∃ (v0_ : Value) (r1 : List Int) (r2 n' rows' last' e' : Int), e = .returned (.tuple #[v0_, .int .i64 r2]) ∧ Kd.R (Kd.int .u64) 26 w' w.heap.size (fun _ => True) v0_ r1 ∧ Stage w0 w (gb + 1) gb f0 f1 f2 f3 b1 n' rows' last' e' w' ∧
      (badB f0 f3 b1 m = true ∧ r1 = [] ∧ r2 = 2 ∧ n' = (m : Int) + 1 ∧ rows' = f6 ∧ last' = 2 ∧ e' = 5 ∨ badB f0 f3 b1 m = false ∧ m + 1 < b1.length ∧ r1 = [] ∧ r2 = 0 ∧ n' = (m : Int) + 1 ∧ rows' = f6 ∧ last' = 0 ∧ e' = f8 ∨
        badB f0 f3 b1 m = false ∧ m + 1 = b1.length ∧ r1 = row ∧ r2 = (if f6 + 1 = f2 then 1 else 0) ∧ n' = 0 ∧ rows' = f6 + 1 ∧ last' = (if f6 + 1 = f2 then 1 else 0) ∧ e' = f8)
set_option maxRecDepth 100000 in
set_option maxHeartbeats 8000000 in
theorem raw_Put.goes (gb : Nat) (f0 f1 f2 f3 f6 f8 : Int) (b : List Int) (m : Nat) (c : Int) (w0 w : World) (hS : Stage w0 w (gb + 1) gb f0 f1 f2 f3 b (m : Int) f6 0 f8 w) (hg : w0.heap.size ≤ gb) (hmay : rawMay f0 f1 f2 f3 = true) (hlen : b.length = rawS f0 f1 f3) (hbyte : byteL b) (hm : m < b.length) (hc : 0 ≤ c ∧ c ≤ 255) (h6 : 0 ≤ f6 ∧ f6 < f2) (row : List Int) (hrow : badB f0 f3 (b.set m c) m = false → m + 1 = b.length → raw_row.f f0 f1 f3 (b.set m c) = some row) :
    Calls Try.prog 19 #[.pointer (some ⟨gb + 1, 0, none⟩), .int .u8 c] w fun e w' => PutOut w0 w gb f0 f1 f2 f3 f6 f8 (b.set m c) m row e w' := by
  have hsb := rawS_bound hmay
  have hbl : b.length ≤ 100000 := by omega
  obtain ⟨b1, hb1⟩ : ∃ b1, b1 = b.set m c := ⟨_, rfl⟩
  rw [← hb1] at hrow ⊢
  have HB1 := Aside0.mk hb1
  clear hb1
  have hmy := rawMay_is hmay
  have hu := Try.underlying71
  have hu2 := Try.underlying34
  have HS := Aside0.mk hS
  have HG := Aside0.mk hg
  have HMAY := Aside0.mk hmay
  have HLEN := Aside0.mk hlen
  have HBY := Aside0.mk hbyte
  have HML := Aside0.mk hm
  have HC := Aside0.mk hc
  have H6 := Aside0.mk h6
  have HROW := Aside0.mk hrow
  have HBL := Aside0.mk hbl
  have HMY := Aside0.mk hmy
  have hc7 := hS.c7
  have hd : decide ((m : Int) < (b.length : Int)) = true := decide_eq_true (by omega)
  have q0 : ((m : Int) < (b.length : Int)) = True := eq_true (by omega)
  have qm : m < b.length := hm
  clear hS hg hmay hlen hbyte hm hc h6 hrow hsb hbl hmy
  go_enter Try.func19, Try.ntmps19
  go_upto_region 3 with (fail)
  go_cut [] from 16 (fun wx => Aside0 (Stage w0 w (gb + 1) gb f0 f1 f2 f3 b1 (m : Int) f6 0 f8 wx))
  case first =>
    have hc4 := HS.out.drew.c4
    have hc5 := HS.out.drew.c5
    have hcb := HS.out.drew.cb m qm
    have hfb := HS.out.drew.fr m
    go_wp2
    go_region_with (fail)
    all_goals (try go_wp2)
    all_goals go_meet
    all_goals exact ⟨by rw [HB1.out]; exact (HS.out.set_b HG.out (by omega) m c).drew⟩
  case rest =>
    have HS1 := hcut
    clear hcut hc7 hd q0 HS
    have hsl : b1.length = b.length := by rw [HB1.out]; exact List.length_set
    have hby : byteL b1 := fun x hx => by
      rw [HB1.out] at hx
      rcases List.mem_or_eq_of_mem_set hx with h | h
      · exact HBY.out x h
      · rw [h]; exact HC.out
    have HBY1 := Aside0.mk hby
    have HLEN1 := Aside0.mk (hsl.trans HLEN.out)
    have HSL := Aside0.mk hsl
    have HBL1 := Aside0.mk (show b1.length ≤ 100000 by rw [hsl]; exact HBL.out)
    clear hsl hby
    obtain ⟨m1, hm1⟩ : ∃ m1, m1 = m + 1 := ⟨_, rfl⟩
    have HM1 := Aside0.mk hm1
    clear hm1
    go_upto_region 4 with (fail)
    go_cut [] from 16 (fun wx => Aside0 (Stage w0 w (gb + 1) gb f0 f1 f2 f3 b1 (m1 : Int) f6 0 f8 wx))
    case first =>
      have hc5 := HS1.out.c5
      have hf5 := HS1.out.fz 5
      have hw : wrap64 ((m : Int) + 1) = (m1 : Int) := by have := HML.out; have := HBL.out; have := HM1.out; unfold wrap64; omega
      go_wp2
      go_meet
      exact ⟨HS1.out.set_n (by have := HG.out; omega) (by omega) _⟩
    case rest =>
      clear HS1
      have HS2 := hcut
      clear hcut
      have hW : raw_wide.f f0 f1 f2 f3 = some (wideV f3) := by unfold raw_wide.f wideV; split <;> rfl
      have HW := Aside0.mk hW
      clear hW
      go_upto_region 5 with (fail)
      go_cut [6] from 16 (fun s6 wx => s6 = .int .i64 (wideV f3) ∧ Aside0 (Stage w0 w (gb + 1) gb f0 f1 f2 f3 b1 (m1 : Int) f6 0 f8 wx))
      case first =>
        have hc0 := HS2.out.c0
        have hc1 := HS2.out.c1
        have hc2 := HS2.out.c2
        have hc3 := HS2.out.c3
        go_wp2_with (first | (go_at_call 38; refine (raw_wide.calls f0 f1 f2 f3 _ _ HW.out).mono ?_; rintro e w2 ⟨rfl, hb2⟩; have HB2 := Aside0.mk hb2; clear hb2))
        go_meet
        exact ⟨rfl, ⟨HS2.out.below' HB2.out⟩⟩
      case rest =>
        clear HS2
        obtain ⟨rfl, HS3⟩ := hcut
        clear HW
        go_upto_region 6 with (fail)
        go_cut [69] from 16 (fun s69 wx => s69 = .bool (badB f0 f3 b1 m) ∧ Aside0 (Stage w0 w (gb + 1) gb f0 f1 f2 f3 b1 (m1 : Int) f6 0 f8 wx))
        case first =>
          have hc0 := HS3.out.c0
          have hc3 := HS3.out.c3
          have hc5 := HS3.out.c5
          have hsw : (wideV f3 == 0) = false := by unfold wideV; split <;> rfl
          have hsn : (wideV f3 = 0) = False := by unfold wideV; split <;> simp
          have hrem : Int.tmod (m1 : Int) (wideV f3) = ((m1 % sampW f3 : Nat) : Int) := by
            unfold wideV sampW
            by_cases h : f3 > 255
            · rw [if_pos h, if_neg (by omega), Int.tmod_eq_emod_of_nonneg (by omega)]; omega
            · rw [if_neg h, if_pos (by omega), Int.tmod_eq_emod_of_nonneg (by omega)]; omega
          have hwr : wrap64 ((m1 % sampW f3 : Nat) : Int) = ((m1 % sampW f3 : Nat) : Int) := by
            have h1 := Nat.mod_le m1 (sampW f3)
            have := HML.out
            have := HBL.out
            have := HM1.out
            clear hrem
            exact w64_id _ (by omega) (by omega)
          have HREM := Aside0.mk hrem
          have HWR := Aside0.mk hwr
          clear hrem hwr
          by_cases h4 : f0 = 4
          · have e0 : (f0 == 4) = true := beq_iff_eq.2 h4
            have e0n : (f0 != 4) = false := bne_eq_false_iff_eq.2 h4
            have HBAD : Aside0 (badB f0 f3 b1 m = false) := ⟨by unfold badB; rw [decide_eq_false (by simpa using h4)]; rfl⟩
            clear h4
            go_wp2_with fail
            go_quiet (fail)
            go_wp2
            go_meet
            exact ⟨by rw [HBAD.out], ⟨HS3.out.below' (pw_below_drewN (Below.refl _ _) _)⟩⟩
          · have e0 : (f0 == 4) = false := beq_eq_false_iff_ne.2 h4
            have e0n : (f0 != 4) = true := bne_iff_ne.2 h4
            by_cases hz : m1 % sampW f3 = 0
            · obtain ⟨j, hj⟩ : ∃ j, j = m1 / sampW f3 - 1 := ⟨_, rfl⟩
              have hsw1 : 1 ≤ sampW f3 ∧ sampW f3 ≤ 2 := by unfold sampW; split <;> omega
              have hmul : sampW f3 * (j + 1) = m1 := by
                have h1 := Nat.div_add_mod m1 (sampW f3)
                have h2 : 1 ≤ m1 / sampW f3 := Nat.div_pos (Nat.le_of_dvd (by have := HM1.out; omega) (Nat.dvd_of_mod_eq_zero hz)) hsw1.1
                rw [hz] at h1
                rw [show j + 1 = m1 / sampW f3 by omega]
                exact h1
              have hquo : Int.tdiv (m1 : Int) (wideV f3) = ((j + 1 : Nat) : Int) := by
                unfold wideV
                unfold sampW at hmul
                by_cases h : f3 > 255
                · rw [if_neg (by omega)] at hmul; rw [if_pos h, Int.tdiv_eq_ediv_of_nonneg (by omega)]; omega
                · rw [if_pos (by omega)] at hmul; rw [if_neg h, Int.tdiv_eq_ediv_of_nonneg (by omega)]; omega
              have hjb : j + 1 ≤ 100000 := by
                have h1 := Nat.le_mul_of_pos_left (j + 1) hsw1.1
                have := HML.out
                have := HBL.out
                have := HM1.out
                omega
              have HSA := Aside0.mk (fun W (s : Stage w0 w (gb + 1) gb f0 f1 f2 f3 b1 (m1 : Int) f6 0 f8 W) => raw_sample.is (gb + 1) f0 f1 f2 f3 (some ⟨gb, 0, none⟩) b1.length b1 (m1 : Int) f6 0 f8 j W s.obj (s.reads HBL1.out) (Nat.le_trans HBL1.out (by decide)) (by rw [hmul, HSL.out]; have := HM1.out; have := HML.out; omega) HBY1.out)
              obtain ⟨sv, hsv⟩ : ∃ sv, sv = sampV f3 b1 j := ⟨_, rfl⟩
              rw [← hsv] at HSA
              have HBAD : Aside0 (badB f0 f3 b1 m = decide (f3 < sv)) := ⟨by
                unfold badB
                rw [decide_eq_true h4, ← HM1.out, decide_eq_true hz, Bool.true_and, Bool.true_and, ← hj, ← hsv]⟩
              obtain ⟨q, hq⟩ : ∃ q, q = j + 1 := ⟨_, rfl⟩
              rw [← hq] at hquo hjb
              have p1 : (0 : Int) ≤ (q : Int) := by omega
              have p2 : (q : Int) ≤ 1000000 := by omega
              have p3 : (0 : Int) ≤ (q : Int) - 1 := by omega
              have p4 : (q : Int) - 1 ≤ 1000000 := by omega
              have p5 : (q : Int) - 1 = (j : Int) := by omega
              have hq1 : wrap64 (q : Int) = (q : Int) := w64_id _ p1 p2
              have hq2 : IntKind.i64.wrap (q : Int) = (q : Int) := (i64_w _).trans hq1
              have hq3 : wrap64 ((q : Int) - 1) = (j : Int) := (w64_id _ p3 p4).trans p5
              have hq4 : IntKind.i64.wrap ((q : Int) - 1) = (j : Int) := (i64_w _).trans hq3
              clear p1 p2 p3 p4 p5
              have hrem := HREM.out
              have hwr := HWR.out
              rw [hz] at hrem hwr
              have hwr2 : IntKind.i64.wrap ((0 : Nat) : Int) = ((0 : Nat) : Int) := (i64_w _).trans hwr
              have hz0 : (((0 : Nat) : Int) == 0) = true := rfl
              have hd0 := HS3.out.drew.c0
              have hd3 := HS3.out.drew.c3
              have hd5 := HS3.out.drew.c5
              clear h4 hz hj hsv hq hjb hmul hsw1 hc0 hc3 hc5
              go_wp2_with fail
              go_region_held3 (fun w' => w'.cell? ⟨gb + 1, 0, none⟩ = some (.int .i64 f0) ∧ w'.cell? ⟨gb + 1, 3, none⟩ = some (.int .i64 f3) ∧ w'.cell? ⟨gb + 1, 5, none⟩ = some (.int .i64 (m1 : Int))) (first | exact ⟨hd0, hd3, hd5⟩ | exact ⟨hx0, hx3, hx5⟩) (first | (go_at_call 45; refine (HSA.out _ HS3.out.drew).mono ?_; rintro e w2 ⟨rfl, hb2⟩; have HS4 := Aside0.mk (HS3.out.drew.below' hb2); have hx0 := HS4.out.c0; have hx3 := HS4.out.c3; have hx5 := HS4.out.c5; clear hb2))
              by_cases hgt : f3 < sv
              · have e1 : decide (f3 < sv) = true := decide_eq_true hgt
                go_wp2
                go_meet
                exact ⟨by rw [HBAD.out, e1], ⟨HS4.out⟩⟩
              · have e1 : decide (f3 < sv) = false := decide_eq_false hgt
                go_wp2
                go_meet
                exact ⟨by rw [HBAD.out, e1], ⟨HS4.out⟩⟩
            · have HBAD : Aside0 (badB f0 f3 b1 m = false) := ⟨by rw [HM1.out] at hz; unfold badB; rw [decide_eq_false hz]; simp⟩
              obtain ⟨z, hzz⟩ : ∃ z, z = m1 % sampW f3 := ⟨_, rfl⟩
              rw [← hzz] at hz
              have ez : ((z : Int) == 0) = false := beq_eq_false_iff_ne.2 (by omega)
              have hrem := HREM.out
              have hwr := HWR.out
              rw [← hzz] at hrem hwr
              have hwr2 : IntKind.i64.wrap (z : Int) = (z : Int) := (i64_w _).trans hwr
              clear h4 hz hzz
              go_wp2_with fail
              go_quiet (fail)
              go_wp2
              go_meet
              exact ⟨by rw [HBAD.out], ⟨HS3.out.below' (pw_below_drewN (Below.refl _ _) _)⟩⟩
        case rest =>
          clear HS3
          obtain ⟨rfl, HS4⟩ := hcut
          have hg1 : w0.heap.size ≤ gb + 1 := by have := HG.out; omega
          have hne : gb ≠ gb + 1 := by omega
          have HG1 := Aside0.mk hg1
          have HNE := Aside0.mk hne
          clear hg1 hne
          cases hbad : badB f0 f3 b1 m with
          | true =>
            have HBAD := Aside0.mk hbad
            have hf8 := HS4.out.fz 8
            have hf7 := HS4.out.fz 7
            have hc8 := HS4.out.c8
            have hc7 := HS4.out.c7
            have HS5 := Aside0.mk ((HS4.out.set_e HG1.out HNE.out 5).set_last HG1.out HNE.out 2)
            have hd7 := HS5.out.c7
            have hd7d := HS5.out.drew.c7
            clear hbad
            go_wp2
            go_region
            all_goals (try go_wp2)
            all_goals go_ret2
            all_goals exact ⟨.slice none 0 0, [], 2, _, _, _, _, rfl, Kd.R_nil _ _ _ _ _, HS5.out.drew, .inl ⟨HBAD.out, rfl, rfl, by have := HM1.out; omega, rfl, rfl, rfl⟩⟩
          | false =>
            have HBAD := Aside0.mk hbad
            have hc4 := HS4.out.c4
            have hc5 := HS4.out.c5
            clear hbad
            by_cases hmore : m1 < b1.length
            · have HMORE := Aside0.mk hmore
              have d0 : decide ((m1 : Int) < (b1.length : Int)) = true := decide_eq_true (by omega)
              have d0n : decide (m1 < b1.length) = true := decide_eq_true hmore
              clear hmore
              go_wp2_with fail
              go_quiet (fail)
              go_wp2
              go_ret2
              exact ⟨.slice none 0 0, [], 0, _, _, _, _, rfl, Kd.R_nil _ _ _ _ _, HS4.out.below' (pw_below_drewN (Below.refl _ _) _), .inr (.inl ⟨HBAD.out, by have := HM1.out; have := HMORE.out; omega, rfl, rfl, by have := HM1.out; omega, rfl, rfl, rfl⟩)⟩
            · have hfull : m + 1 = b1.length := by have h1 := HM1.out; have h2 := HML.out; have h3 := HSL.out; omega
              have HFULL := Aside0.mk hfull
              have HRW := Aside0.mk (HROW.out HBAD.out (hfull.trans HSL.out))
              have d0 : decide ((m1 : Int) < (b1.length : Int)) = false := decide_eq_false (by omega)
              have d0n : decide (m1 < b1.length) = false := decide_eq_false hmore
              clear hmore hfull
              go_upto_region 9 with (fail)
              go_cut [89] from 16 (fun s89 wx => s89 = .bool false ∧ Aside0 (Stage w0 w (gb + 1) gb f0 f1 f2 f3 b1 (m1 : Int) f6 0 f8 wx))
              case first =>
                go_wp2_with fail
                go_quiet (fail)
                go_wp2
                go_meet
                exact ⟨rfl, ⟨HS4.out.below' (pw_below_drewN (Below.refl _ _) _)⟩⟩
              case rest =>
                clear hc4 hc5 d0 d0n HS4
                obtain ⟨rfl, HS5⟩ := hcut
                go_upto_region 11 with (fail)
                go_cut [] from 16 (fun wx => Aside0 (Stage w0 w (gb + 1) gb f0 f1 f2 f3 b1 0 f6 0 f8 wx))
                case first =>
                  have hc5 := HS5.out.c5
                  have hf5 := HS5.out.fz 5
                  go_wp2
                  go_meet
                  exact ⟨HS5.out.set_n HG1.out HNE.out 0⟩
                case rest =>
                  clear HS5
                  have HS6 := hcut
                  clear hcut
                  go_upto_region 12 with (fail)
                  go_cut [] from 16 (fun wx => Aside0 (Stage w0 w (gb + 1) gb f0 f1 f2 f3 b1 0 (f6 + 1) 0 f8 wx))
                  case first =>
                    have hc6 := HS6.out.c6
                    have hf6 := HS6.out.fz 6
                    have hw : wrap64 (f6 + 1) = f6 + 1 := by have h1 := H6.out; have h2 := HMY.out; exact w64_id _ (by omega) (by omega)
                    go_wp2
                    go_meet
                    exact ⟨HS6.out.set_rows HG1.out HNE.out (f6 + 1)⟩
                  case rest =>
                    clear HS6
                    have HS7 := hcut
                    clear hcut
                    obtain ⟨lv, hlv⟩ : ∃ lv : Int, lv = if f6 + 1 = f2 then 1 else 0 := ⟨_, rfl⟩
                    have HLV := Aside0.mk hlv
                    obtain ⟨r6, hr6⟩ : ∃ r6, r6 = f6 + 1 := ⟨_, rfl⟩
                    have HR6 := Aside0.mk hr6
                    rw [← hr6] at HS7
                    clear hlv hr6
                    have hend : ∀ W, Aside0 (Stage w0 w (gb + 1) gb f0 f1 f2 f3 b1 0 r6 lv f8 W) → Aside0 (Stage w0 w (gb + 1) gb f0 f1 f2 f3 b1 0 (f6 + 1) (if f6 + 1 = f2 then 1 else 0) f8 W) := fun W s => by rw [← HLV.out, ← HR6.out]; exact s
                    have HEND := Aside0.mk hend
                    clear hend
                    by_cases hover : r6 = f2
                    · have e1 : (r6 == f2) = true := beq_iff_eq.2 hover
                      have hlv1 : lv = 1 := by rw [HLV.out, if_pos (by rw [← HR6.out]; exact hover)]
                      have HLV1 := Aside0.mk hlv1
                      have hc6 := HS7.out.c6
                      have hc2 := HS7.out.c2
                      clear hlv1 hover
                      go_upto_region 13 with (fail)
                      go_cut [109] from 16 (fun s109 wx => s109 = .bool true ∧ Aside0 (Stage w0 w (gb + 1) gb f0 f1 f2 f3 b1 0 r6 0 f8 wx))
                      case first =>
                        go_wp2_with fail
                        go_quiet (fail)
                        go_wp2
                        go_meet
                        exact ⟨rfl, ⟨HS7.out.below' (pw_below_drewN (Below.refl _ _) _)⟩⟩
                      case rest =>
                        clear hc6 hc2 e1 HS7
                        obtain ⟨rfl, HS8⟩ := hcut
                        have hc7 := HS8.out.c7
                        have hf7 := HS8.out.fz 7
                        have HS9 : Aside0 (Stage w0 w (gb + 1) gb f0 f1 f2 f3 b1 0 r6 lv f8 (wc.setCell ⟨gb + 1, 7, none⟩ (.int .i64 1))) := ⟨by rw [HLV1.out]; exact HS8.out.set_last HG1.out HNE.out 1⟩
                        have hd7 := HS9.out.drew.c7
                        go_upto_region 15 with (fail)
                        clear hc7 hf7
                        generalize wc.setCell ⟨gb + 1, 7, none⟩ (.int .i64 1) = W7 at *
                        go_region_with (first | (go_at_call 46; refine (raw_row.calls (gb + 1) (some ⟨gb, 0, none⟩) b1.length b1 0 r6 lv f8 row _ HMAY.out HS9.out.drew.obj (HS9.out.drew.reads HBL1.out) (Nat.le_refl _) HLEN1.out HBY1.out HRW.out).mono ?_; rintro e w2 ⟨v, rfl, hR, hB⟩; have HS10 := Aside0.mk (HS9.out.drew.below' hB); have hx7 := HS10.out.c7; have HRR := Aside0.mk hR; clear hR hB))
                        all_goals (try go_wp2)
                        all_goals go_ret2
                        all_goals exact ⟨v, row, lv, _, _, _, _, rfl, Kd.R_lower HRR.out HS9.out.drew.keep.1, (HEND.out _ HS10).out, .inr (.inr ⟨HBAD.out, HFULL.out, rfl, HLV.out, rfl, rfl, rfl, rfl⟩)⟩
                    · have e1 : (r6 == f2) = false := beq_eq_false_iff_ne.2 hover
                      have hlv1 : lv = 0 := by rw [HLV.out, if_neg (by rw [← HR6.out]; exact hover)]
                      have HLV1 := Aside0.mk hlv1
                      have hc6 := HS7.out.c6
                      have hc2 := HS7.out.c2
                      clear hlv1 hover
                      go_upto_region 13 with (fail)
                      go_cut [109] from 16 (fun s109 wx => s109 = .bool false ∧ Aside0 (Stage w0 w (gb + 1) gb f0 f1 f2 f3 b1 0 r6 0 f8 wx))
                      case first =>
                        go_wp2_with fail
                        go_quiet (fail)
                        go_wp2
                        go_meet
                        exact ⟨rfl, ⟨HS7.out.below' (pw_below_drewN (Below.refl _ _) _)⟩⟩
                      case rest =>
                        clear hc6 hc2 e1 HS7
                        obtain ⟨rfl, HS8⟩ := hcut
                        have HS9 : Aside0 (Stage w0 w (gb + 1) gb f0 f1 f2 f3 b1 0 r6 lv f8 wc) := ⟨by rw [HLV1.out]; exact HS8.out⟩
                        have hd7 := HS9.out.drew.c7
                        go_upto_region 15 with (fail)
                        go_region_with (first | (go_at_call 46; refine (raw_row.calls (gb + 1) (some ⟨gb, 0, none⟩) b1.length b1 0 r6 lv f8 row _ HMAY.out HS9.out.drew.obj (HS9.out.drew.reads HBL1.out) (Nat.le_refl _) HLEN1.out HBY1.out HRW.out).mono ?_; rintro e w2 ⟨v, rfl, hR, hB⟩; have HS10 := Aside0.mk (HS9.out.drew.below' hB); have hx7 := HS10.out.c7; have HRR := Aside0.mk hR; clear hR hB))
                        all_goals (try go_wp2)
                        all_goals go_ret2
                        all_goals exact ⟨v, row, lv, _, _, _, _, rfl, Kd.R_lower HRR.out HS9.out.drew.keep.1, (HEND.out _ HS10).out, .inr (.inr ⟨HBAD.out, HFULL.out, rfl, HLV.out, rfl, rfl, rfl, rfl⟩)⟩
theorem sampV_take {f3 : Int} {b : List Int} {k j : Nat} (h : sampW f3 * (j + 1) ≤ k) : sampV f3 (b.take k) j = sampV f3 b j := by
  have hg : ∀ i, i < k → (b.take k).getD i 0 = b.getD i 0 := fun i hi => by
    rw [List.getD_eq_getElem?_getD, List.getD_eq_getElem?_getD, List.getElem?_take, if_pos hi]
  unfold sampV
  unfold sampW at h
  by_cases h3 : f3 ≤ 255
  · rw [if_pos h3] at h
    rw [if_pos h3, if_pos h3, hg j (by omega)]
  · rw [if_neg h3] at h
    rw [if_neg h3, if_neg h3, hg (2 * j) (by omega), hg (2 * j + 1) (by omega)]
theorem set_take_snoc {b : List Int} {m : Nat} {c : Int} (h : m < b.length) : (b.set m c).take (m + 1) = b.take m ++ [c] := by
  rw [List.take_add_one, List.getElem?_set_self h, List.take_set_of_le (Nat.le_refl _)]
  rfl
theorem putL_is {f4 c : Int} {b : List Int} {m : Nat} (hm : m < b.length) (hb : byteL b) (hc : f4 = encB (b.take m)) : putL f4 (m : Int) c = (b.set m c).take (m + 1) := by
  rw [set_take_snoc hm]
  unfold putL
  rw [Int.toNat_natCast, hc]
  have h := dec_enc (b.take m) (fun x hx => hb x (List.mem_of_mem_take hx))
  rw [List.length_take, Nat.min_eq_left (Nat.le_of_lt hm)] at h
  rw [h]
theorem putL_bad {f0 f3 : Int} {b : List Int} {m : Nat} (hm : m < b.length) : (f0 ≠ 4 ∧ (b.take (m + 1)).length % sampW f3 = 0 ∧ sampV f3 (b.take (m + 1)) ((b.take (m + 1)).length / sampW f3 - 1) > f3) ↔ badB f0 f3 b m = true := by
  have hl : (b.take (m + 1)).length = m + 1 := by rw [List.length_take]; omega
  rw [hl]
  unfold badB
  rw [Bool.and_eq_true, Bool.and_eq_true, decide_eq_true_eq, decide_eq_true_eq, decide_eq_true_eq]
  by_cases hz : (m + 1) % sampW f3 = 0
  · have hs : sampW f3 * ((m + 1) / sampW f3 - 1 + 1) ≤ m + 1 := by
      have h1 : 1 ≤ sampW f3 := by unfold sampW; split <;> omega
      have h2 : 1 ≤ (m + 1) / sampW f3 := Nat.div_pos (Nat.le_of_dvd (by omega) (Nat.dvd_of_mod_eq_zero hz)) h1
      rw [show (m + 1) / sampW f3 - 1 + 1 = (m + 1) / sampW f3 by omega]
      exact Nat.mul_div_le _ _
    rw [sampV_take hs]
  · constructor
    · exact fun h => absurd h.2.1 hz
    · exact fun h => absurd h.2.1 hz
set_option maxRecDepth 100000 in
set_option maxHeartbeats 4000000 in
theorem raw_Put.over (g : Nat) (f0 f1 f2 f3 f4 f5 f6 f7 f8 c : Int) (w0 w : World) (hI : IsS71 w0 w g f0 f1 f2 f3 f4 f5 f6 f7 f8) (hB : Below w0.heap.size w0 w) (hl : f7 ≠ 0) :
    Calls Try.prog 19 #[.pointer (some ⟨g, 0, none⟩), .int .u8 c] w fun e w' => e = .returned (.tuple #[.slice none 0 0, .int .i64 f7]) ∧ IsS71 w0 w' g f0 f1 f2 f3 f4 f5 f6 f7 f8 ∧ Below w0.heap.size w0 w' ∧ KeepBut w w' g (some (g - 1)) := by
  have HI := Aside0.mk hI
  have HB := Aside0.mk hB
  obtain ⟨gb, b, rfl, hobj, hg, hrw, ok⟩ := hI
  have hu := Try.underlying71
  have hc7 : w.cell? ⟨gb + 1, 7, none⟩ = some (.int .i64 f7) := blk_cell hobj 7
  have e0 : (f7 == 0) = false := beq_eq_false_iff_ne.2 hl
  have e1 : (f7 != 0) = true := bne_iff_ne.2 hl
  clear hobj hg hrw ok hB hl
  go_enter Try.func19, Try.ntmps19
  go_wp2
  go_region
  all_goals (try go_wp2)
  all_goals go_ret2
  all_goals exact ⟨rfl, HI.out.drew, below_drew HB.out, KeepBut.of_below (below_drew (Below.refl _ _)) _ _⟩
set_option maxHeartbeats 4000000 in
theorem raw_Reader_Put.calls (g : Nat) (f0 f1 f2 f3 f4 f5 f6 f7 f8 c : Int) (r1 : List Int) (r2 r3 r4 r5 r6 r7 r8 r9 r10 r11 : Int) (w0 w : World) (hI : IsS71 w0 w g f0 f1 f2 f3 f4 f5 f6 f7 f8) (hB : Below w0.heap.size w0 w) (h : raw_Reader_Put.f f0 f1 f2 f3 f4 f5 f6 f7 f8 c = some (r1, r2, r3, r4, r5, r6, r7, r8, r9, r10, r11)) :
    Calls Try.prog 19 #[.pointer (some ⟨g, 0, none⟩), .int .u8 c] w fun e w' => ∃ v0_ : Value, e = .returned (.tuple #[v0_, .int .i64 r2]) ∧ Kd.R (Kd.int .u64) 26 w' w.heap.size (fun _ => True) v0_ r1 ∧ IsS71 w0 w' g r3 r4 r5 r6 r7 r8 r9 r10 r11 ∧ Below w0.heap.size w0 w' ∧ KeepBut w w' g (some (g - 1)) := by
  unfold raw_Reader_Put.f at h
  by_cases hl : f7 = 0
  · rw [if_neg (by simpa using hl)] at h
    by_cases hc : 0 ≤ c ∧ c ≤ 255
    · rw [if_pos hc] at h
      obtain ⟨gb, b, rfl, hobj, hg, hrw, ok⟩ := hI
      subst hl
      obtain ⟨m, rfl⟩ := Int.eq_ofNat_of_zero_le ok.n0
      have hm : m < b.length := by have := (ok.more rfl).1; omega
      have hbl : (b.set m c).length = b.length := List.length_set
      have hcode := ok.code
      rw [Int.toNat_natCast] at hcode
      rw [putL_is hm ok.byte hcode, Int.toNat_natCast] at h
      have hpb := putL_bad (f0 := f0) (f3 := f3) (b := b.set m c) (m := m) (by rw [hbl]; exact hm)
      have hlen : ((b.set m c).take (m + 1)).length = m + 1 := by rw [List.length_take, hbl]; omega
      have hby : byteL (b.set m c) := fun x hx => by
        rcases List.mem_or_eq_of_mem_set hx with h | h
        · exact ok.byte x h
        · rw [h]; exact hc
      have hcode1 : f4 + c * 256 ^ m = encB ((b.set m c).take (m + 1)) := by
        rw [set_take_snoc hm, enc_snoc, ← hcode, List.length_take, Nat.min_eq_left (Nat.le_of_lt hm)]
      have hmore := ok.more rfl
      have hr0 := ok.r0
      have hrow : badB f0 f3 (b.set m c) m = false → m + 1 = b.length → raw_row.f f0 f1 f3 (b.set m c) = some r1 := by
        intro hb he
        rw [if_neg (by rw [hpb, hb]; simp), hlen, if_neg (by rw [← ok.len]; omega)] at h
        rw [List.take_of_length_le (by rw [hbl]; omega)] at h
        obtain ⟨r, hr, h⟩ := Option.bind_eq_some_iff.mp h
        simp only [Option.some.injEq, Prod.mk.injEq] at h
        rw [hr, h.1]
      refine (raw_Put.goes gb f0 f1 f2 f3 f6 f8 b m c w0 w ⟨hobj, hrw, KeepBut.refl _ _ _, hB⟩ hg ok.may ok.len ok.byte hm hc ⟨hr0, hmore.2⟩ r1 hrow).mono ?_
      rintro e w' ⟨v0, x1, x2, n', rows', last', e', rfl, hR, hS, hcase⟩
      rcases hcase with ⟨hb, rfl, rfl, rfl, rfl, rfl, rfl⟩ | ⟨hb, hlt, rfl, rfl, rfl, rfl, rfl, rfl⟩ | ⟨hb, he, rfl, rfl, rfl, rfl, rfl, rfl⟩
      · rw [if_pos (hpb.2 hb)] at h
        simp only [Option.some.injEq, Prod.mk.injEq] at h
        obtain ⟨rfl, rfl, rfl, rfl, rfl, rfl, rfl, rfl, rfl, rfl, rfl⟩ := h
        exact ⟨v0, rfl, hR, ⟨gb, b.set m c, rfl, hS.obj, hg, hS.row, ⟨ok.may, hbl.trans ok.len, hby, by omega, by rw [hbl]; omega, hcode1, hr0, ok.r1, fun h => absurd h (by decide)⟩⟩, hS.below, hS.keep⟩
      · rw [if_neg (by rw [hpb, hb]; simp), hlen, if_pos (by rw [← ok.len]; omega)] at h
        simp only [Option.some.injEq, Prod.mk.injEq] at h
        obtain ⟨rfl, rfl, rfl, rfl, rfl, rfl, rfl, rfl, rfl, rfl, rfl⟩ := h
        exact ⟨v0, rfl, hR, ⟨gb, b.set m c, rfl, hS.obj, hg, hS.row, ⟨ok.may, hbl.trans ok.len, hby, by omega, by rw [hbl]; omega, hcode1, hr0, ok.r1, fun _ => ⟨by rw [hbl]; omega, hmore.2⟩⟩⟩, hS.below, hS.keep⟩
      · rw [hbl] at he
        have hf := hrow hb he
        rw [if_neg (by rw [hpb, hb]; simp), hlen, if_neg (by rw [← ok.len]; omega)] at h
        rw [List.take_of_length_le (by rw [hbl]; omega), hf] at h
        simp only [Option.bind_some, Option.some.injEq, Prod.mk.injEq] at h
        obtain ⟨_, rfl, rfl, rfl, rfl, rfl, rfl, rfl, rfl, rfl, rfl⟩ := h
        refine ⟨v0, rfl, hR, ⟨gb, b.set m c, rfl, hS.obj, hg, hS.row, ⟨ok.may, hbl.trans ok.len, hby, by omega, by omega, rfl, by omega, by omega, fun h => ?_⟩⟩, hS.below, hS.keep⟩
        have hsb := rawS_bound ok.may
        have h2 : ¬ f6 + 1 = f2 := fun e => by rw [if_pos e] at h; exact absurd h (by decide)
        exact ⟨by rw [hbl, ok.len]; omega, by omega⟩
    · rw [if_neg hc] at h
      exact absurd h (by simp)
  · rw [if_pos hl] at h
    simp only [Option.some.injEq, Prod.mk.injEq] at h
    obtain ⟨rfl, rfl, rfl, rfl, rfl, rfl, rfl, rfl, rfl, rfl, rfl⟩ := h
    refine (raw_Put.over g f0 f1 f2 f3 f4 f5 f6 f7 f8 c w0 w hI hB hl).mono ?_
    rintro e w' ⟨rfl, h1, h2, h3⟩
    exact ⟨_, rfl, Kd.R_nil _ _ _ _ _, h1, h2, h3⟩
end Go.Proofs.Ytdjonaajfhbfhaa.Q
