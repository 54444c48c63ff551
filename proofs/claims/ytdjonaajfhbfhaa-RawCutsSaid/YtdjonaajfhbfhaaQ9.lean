-- written by our own program (wip/tools/myprint.py) out of the translation, by the kit's print; Lean checks it
import Derived.Test.YtdjonaajfhbfhaaQ0
import Derived.Test.YtdjonaajfhbfhaaQ1
import Derived.Test.YtdjonaajfhbfhaaQ4
namespace Go.Proofs.Ytdjonaajfhbfhaa.Q
open Go.RowKit Go.Proofs.YtdjonaajfhbfhaaW.PrintWords Go.Proofs.YtdjonaajfhbfhaaW.PrintLast Go.Proofs.YtdjonaajfhbfhaaW.PrintMore
attribute [local go_sem] max2_int min2_int max_two min_two max_three min_three max_four min_four   -- for this text's walks alone
set_option linter.unusedVariables false
set_option linter.unusedSimpArgs false

abbrev Fl44 : Array Bool := #[false, false, false, false, false, false, false, false, false, false, false, false, false, false]
abbrev Fl45 : Array Bool := #[true, false, false, false, false, false, false, false, false, false, false, false, false, false]
abbrev Fl46 : Array Bool := #[true, true, false, false, false, false, false, false, false, false, false, false, false, false]
abbrev Fl47 : Array Bool := #[true, true, true, false, false, false, false, false, false, false, false, false, false, false]
abbrev Fl48 : Array Bool := #[true, true, true, true, false, false, false, false, false, false, false, false, false, false]
abbrev Fl49 : Array Bool := #[true, true, true, true, false, true, false, false, false, false, false, false, false, false]
abbrev Fl50 : Array Bool := #[true, true, true, true, false, true, true, false, false, false, false, false, false, false]
abbrev Fl51 : Array Bool := #[true, true, true, true, false, true, true, true, false, false, false, false, false, false]
abbrev Fl52 : Array Bool := #[true, true, true, true, false, true, true, true, true, false, false, false, false, false]
abbrev Fl53 : Array Bool := #[true, true, true, true, false, true, true, true, true, true, false, false, false, false]
abbrev Fl54 : Array Bool := #[true, true, true, true, false, true, true, true, true, true, true, false, false, false]
abbrev Fl55 : Array Bool := #[true, true, true, true, true, true, true, true, true, true, true, false, false, false]
abbrev Fl56 : Array Bool := #[true, true, true, true, true, true, true, true, true, true, true, true, false, false]
abbrev Fl57 : Array Bool := #[true, true, true, true, true, true, true, true, true, true, true, true, true, false]
abbrev Fl58 : Array Bool := #[true, true, true, true, true, true, true, true, true, true, true, true, true, true]
/-! ### bits_Pack: function 37 -/
def bits_Pack.l0 : Nat → List Int → List Int → Int → Int → Option (List Int × Int)
 | 0, _, _, _, _ => none
 | k + 1, x4, x15, x16, x17 => if x17 < x16 then (if 0 ≤ x17 then (if x17 < (x15.length : Int) then (if (rd x15 x17) = 0 then (if 0 ≤ (wrap64 (Int.tdiv x17 8)) then (if (wrap64 (Int.tdiv x17 8)) < (x4.length : Int) then (if 0 ≤ (wrap64 (7 - (Int.tmod x17 8))) then (bits_Pack.l0 k (x4.set ((wrap64 (Int.tdiv x17 8)) : Int).toNat (Go.bits .or .u8 (rd x4 (wrap64 (Int.tdiv x17 8))) ((shl .i64 (rd x15 x17) (wrap64 (7 - (Int.tmod x17 8)))) % 256))) x15 x16 (wrap64 (x17 + 1))) else (none)) else (none)) else (none)) else (if (rd x15 x17) = 1 then (if 0 ≤ (wrap64 (Int.tdiv x17 8)) then (if (wrap64 (Int.tdiv x17 8)) < (x4.length : Int) then (if 0 ≤ (wrap64 (7 - (Int.tmod x17 8))) then (bits_Pack.l0 k (x4.set ((wrap64 (Int.tdiv x17 8)) : Int).toNat (Go.bits .or .u8 (rd x4 (wrap64 (Int.tdiv x17 8))) ((shl .i64 (rd x15 x17) (wrap64 (7 - (Int.tmod x17 8)))) % 256))) x15 x16 (wrap64 (x17 + 1))) else (none)) else (none)) else (none)) else (some (([] : List Int), 1)))) else (none)) else (none)) else (some (x4, 0))
def bits_Pack.f (k : Nat) (l0 : List Int) : Option (List Int × Int) := (bits_sized.f (l0.length : Int)).bind fun t173 => (if t173 = true then ((bits_Bytes.f (l0.length : Int)).bind fun t174 => (if 0 ≤ t174 then (if (t174 : Int).toNat ≤ 281474976710656 then (bits_Pack.l0 k (List.replicate (t174 : Int).toNat 0) l0 (l0.length : Int) 0) else (none)) else (none))) else (some (([] : List Int), 1)))
theorem bits_Pack.mono_l : ∀ k, (∀ y0 y1 y2 y3, LeO (bits_Pack.l0 k y0 y1 y2 y3) (bits_Pack.l0 (k + 1) y0 y1 y2 y3))
 | 0 => fun _ _ _ _ r h => by simp [bits_Pack.l0] at h
 | k + 1 => by
  have ih0 := bits_Pack.mono_l k
  · intro y0 y1 y2 y3
    unfold bits_Pack.l0
    repeat' first
    | (with_reducible exact ih0 _ _ _ _)
    | (with_reducible exact LeO.refl _)
    | (with_reducible exact LeO.none _)
    | (with_reducible refine LeO.ite ?_ ?_)
    | (with_reducible refine LeO.bind ?_ (fun _ => ?_))
    | exact ih0 _ _ _ _
    | exact LeO.none _
    | refine LeO.ite ?_ ?_
    | refine LeO.bind ?_ (fun _ => ?_)
theorem bits_Pack.mono : ∀ a0 k, LeO (bits_Pack.f k a0) (bits_Pack.f (k + 1) a0) := by
 intro a0 k
 have ih0 := bits_Pack.mono_l k
 unfold bits_Pack.f
 repeat' first
  | (with_reducible exact ih0 _ _ _ _)
  | (with_reducible exact LeO.refl _)
  | (with_reducible exact LeO.none _)
  | (with_reducible refine LeO.ite ?_ ?_)
  | (with_reducible refine LeO.bind ?_ (fun _ => ?_))
  | exact ih0 _ _ _ _
  | exact LeO.none _
  | refine LeO.ite ?_ ?_
  | refine LeO.bind ?_ (fun _ => ?_)
def bits_Pack.T9 : Bool × List (List Nat × List Nat) := (true, [([], []), ([], []), ([1], [1]), ([0, 2], [0, 2]), ([3], [3]), ([], []), ([], []), ([6], [6]), ([7], [7]), ([5, 8], [5, 8]), ([9], [9]), ([4, 10], [4, 10]), ([0, 2, 0, 1, 2, 3, 4, 5, 6, 7, 8, 9, 10, 11], [0, 2]), ([12, 11, 0, 1, 2, 3, 4, 5, 6, 7, 8, 9, 10, 11], [11, 12])])
def bits_Pack.B9 : List Nat := [0, 0, 2, 7, 15, 0, 0, 64, 192, 480, 992, 2047, 4095, 8191]
theorem bits_Pack.tab9 : rtab .any (opsOf Try.f37 9) = bits_Pack.T9 := by kernel_rfl
theorem bits_Pack.bits9 : waitsOk bits_Pack.T9.2 bits_Pack.B9 = true := by kernel_rfl
set_option maxHeartbeats 8000000 in
set_option maxRecDepth 100000 in
theorem bits_Pack.calls (k : Nat) (A0 : Option Addr) (c0 : Nat) (l0 : List Int) (r1 : List Int) (r2 : Int) (w : World) (hr0 : Kd.C (Kd.int .i64) w A0 l0.length l0) (hc0 : l0.length ≤ c0) (h : bits_Pack.f k l0 = some (r1, r2)) :
 Calls Try.prog 37 #[.slice A0 l0.length c0] w fun e w' => ∃ v0_ : Value, e = .returned (.tuple #[v0_, .int .i64 r2]) ∧ Kd.R (Kd.int .u8) 5 w' w.heap.size (fun _ => True) v0_ r1 ∧ Below w.heap.size w w' := by
 have HR0 := Aside0.mk hr0
 have HC0 := Aside0.mk hc0
 clear hr0 hc0
 have HB := Aside0.mk (Below.refl w.heap.size w)
 have H : ((bits_sized.f (l0.length : Int)).bind fun t173 => (if t173 = true then ((bits_Bytes.f (l0.length : Int)).bind fun t174 => (if 0 ≤ t174 then (if (t174 : Int).toNat ≤ 281474976710656 then (bits_Pack.l0 k (List.replicate (t174 : Int).toNat 0) l0 (l0.length : Int) 0) else (none)) else (none))) else (some (([] : List Int), 1)))) = some (r1, r2) := h
 clear h
 replace H := Option.bind_eq_some_iff.mp H
 obtain ⟨t173, A20, H⟩ := H
 replace H : (if t173 = true then ((bits_Bytes.f (l0.length : Int)).bind fun t174 => (if 0 ≤ t174 then (if (t174 : Int).toNat ≤ 281474976710656 then (bits_Pack.l0 k (List.replicate (t174 : Int).toNat 0) l0 (l0.length : Int) 0) else (none)) else (none))) else (some (([] : List Int), 1))) = some (r1, r2) := H
 have A2 := Aside0.mk A20
 clear A20
 by_cases c3 : t173 = true
 · subst c3
   have H1 : ((bits_Bytes.f (l0.length : Int)).bind fun t174 => (if 0 ≤ t174 then (if (t174 : Int).toNat ≤ 281474976710656 then (bits_Pack.l0 k (List.replicate (t174 : Int).toNat 0) l0 (l0.length : Int) 0) else (none)) else (none))) = some (r1, r2) := by rw [if_pos rfl] at H; exact H
   clear H
   have H := H1
   clear H1
   replace H := Option.bind_eq_some_iff.mp H
   obtain ⟨t174, A40, H⟩ := H
   replace H : (if 0 ≤ t174 then (if (t174 : Int).toNat ≤ 281474976710656 then (bits_Pack.l0 k (List.replicate (t174 : Int).toNat 0) l0 (l0.length : Int) 0) else (none)) else (none)) = some (r1, r2) := H
   have A4 := Aside0.mk A40
   clear A40
   by_cases c5 : 0 ≤ t174
   · rw [if_pos c5] at H
     have c5b0 := eq_true c5
     have c5b1 : decide (0 ≤ t174) = true := decide_eq_true c5
     clear c5
     by_cases c6 : (t174 : Int).toNat ≤ 281474976710656
     · rw [if_pos c6] at H
       have c6b0 := eq_true c6
       have c6b1 : decide ((t174 : Int).toNat ≤ 281474976710656) = true := decide_eq_true c6
       clear c6
       obtain ⟨y175, hy175⟩ : ∃ y_ : List Int, y_ = (List.replicate (t174 : Int).toNat 0) := ⟨_, rfl⟩
       replace H : (bits_Pack.l0 k y175 l0 (l0.length : Int) 0) = some (r1, r2) := by first | (rw [hy175]; with_reducible exact H) | (have H2_ := (Option.bind_some _ _).symm.trans H; rw [hy175]; with_reducible exact H2_) | (have H2_ := (Option.bind_some _ _).symm.trans H; with_reducible exact H2_) | with_reducible exact H | (rw [hy175]; exact H) | exact H
       have Ny175 := Aside0.mk hy175
       clear hy175
       have H' := Aside0.mk H
       clear H
       go_enter Try.func37, Try.ntmps37
       go_wp2_with (first | ((with_reducible refine gate_callee (f := 56) rfl ?_); refine goQ_ (some 9) Try.func56 #[.int .i64 (l0.length : Int)] ?_; (with_reducible refine (bits_sized.calls (l0.length : Int) true _ A2.out).mono ?_); rintro e w' ⟨rfl, ⟨nd, rfl⟩⟩; refine ⟨_, rfl, ?_⟩) | ((with_reducible refine gate_callee (f := 50) rfl ?_); refine goQ_ (some 13) Try.func50 #[.int .i64 (l0.length : Int)] ?_; (with_reducible refine (bits_Bytes.calls (l0.length : Int) t174 _ A4.out).mono ?_); rintro e w' ⟨rfl, ⟨nd, rfl⟩⟩; refine ⟨_, rfl, ?_⟩) | ((with_reducible refine gate_dst (N := 14) rfl ?_); refine Kd.R_make (Kd.int .u8) _ 5 rfl (N := 14) rfl 27 _ _ rfl t174 rfl rfl Try.underlying27 (.int .u8 0) 1 info5 rfl (by decide) (by omega) 0 (ok := fun _ => True) (okp := fun _ => True) rfl (fun _ hk => hk) trivial (of_decide_eq_true (by first | (with_reducible assumption) | assumption)) (Nat.le_trans (Nat.mul_le_mul_right _ (of_decide_eq_true (by first | (with_reducible assumption) | assumption) : t174.toNat ≤ 281474976710656)) (by omega)) (Below.refl _ _) (Nat.le_refl _) ?_; intro v176 w7 ho8 hb hg_ hnew_; clear hg_ hnew_; (first | rw [← Ny175.out] at ho8 | (simp only [Int.reduceToNat] at ho8; rw [← Ny175.out] at ho8)); have HO177 := Aside0.mk (Kd.R_lower ho8 (below_size bp_)); replace HB := Aside0.mk (below_step bp_ hb); clear hb ho8))
       go_loopg [17] k (fun kq v17 w' => ∃ (x4_1 : List Int) (x17_1 : Int), v17 = .int .i64 x17_1 ∧ Aside0 (bits_Pack.l0 kq x4_1 l0 (l0.length : Int) x17_1 = some (r1, r2)) ∧ Aside0 (kq ≤ k) ∧ Aside0 (Kd.R (Kd.int .u8) 5 w' w.heap.size (fun _ => True) v176 x4_1) ∧ Aside0 (Below w.heap.size w w'))
       case atStart => exact ⟨(y175), (0), (by first | rfl | (simp; done) | (simp [*]; done)), H', ⟨Nat.le_refl _⟩, ⟨rp_ HO177.out⟩, ⟨bp_⟩⟩
       case round =>
        clear H'
        try clear p2
        try clear c3
        try clear c5
        try clear c5b0
        try clear c5b1
        try clear c6
        try clear c6b0
        try clear c6b1
        obtain ⟨x4_1, x17_1, rfl, HA, HK1, HO_4, HB⟩ := hrel
        cases gk with
        | zero => exact absurd HA.out (by simp [bits_Pack.l0])
        | succ k1 =>
         have H := HA.out
         clear HA
         simp only [bits_Pack.l0] at H
         by_cases c9 : x17_1 < (l0.length : Int)
         · rw [if_pos c9] at H
           have c9b0 : decide (x17_1 < (l0.length : Int)) = true := decide_eq_true c9
           clear c9
           by_cases c10 : 0 ≤ x17_1
           · rw [if_pos c10] at H
             have c10b0 : decide (0 ≤ x17_1) = true := decide_eq_true c10
             clear c10
             by_cases c11 : x17_1 < (l0.length : Int)
             · rw [if_pos c11] at H
               have c11b0 : decide (x17_1 < (l0.length : Int)) = true := decide_eq_true c11
               clear c11
               by_cases c12 : (rd l0 x17_1) = 0
               · rw [if_pos c12] at H
                 have c12b0 : ((rd l0 x17_1) == 0) = true := beq_iff_eq.mpr c12
                 have c12b1 : ((rd l0 x17_1) != 0) = false := bne_eq_false_iff_eq.mpr c12
                 clear c12
                 obtain ⟨ji13, hji13⟩ : ∃ j_ : Int, (wrap64 (Int.tdiv x17_1 8)) = j_ := ⟨_, rfl⟩
                 replace H : (if 0 ≤ (ji13) then (if (ji13) < (x4_1.length : Int) then (if 0 ≤ (wrap64 (7 - (Int.tmod x17_1 8))) then (bits_Pack.l0 k1 (x4_1.set ((ji13) : Int).toNat (Go.bits .or .u8 (rd x4_1 (ji13)) ((shl .i64 (rd l0 x17_1) (wrap64 (7 - (Int.tmod x17_1 8)))) % 256))) l0 (l0.length : Int) (wrap64 (x17_1 + 1))) else (none)) else (none)) else (none)) = some (r1, r2) := by first | (rw [hji13] at H; exact H) | (simp only [hji13] at H ⊢; exact H)
                 have hji13w : (IntKind.i64.wrap (Int.tdiv x17_1 8)) = ji13 := (i64_w _).trans hji13
                 by_cases c14 : 0 ≤ (ji13)
                 · rw [if_pos c14] at H
                   have c14b0 : decide (0 ≤ (ji13)) = true := decide_eq_true c14
                   clear c14
                   by_cases c15 : (ji13) < (x4_1.length : Int)
                   · rw [if_pos c15] at H
                     have c15b0 : decide ((ji13) < (x4_1.length : Int)) = true := decide_eq_true c15
                     clear c15
                     obtain ⟨ji16, hji16⟩ : ∃ j_ : Int, (wrap64 (7 - (Int.tmod x17_1 8))) = j_ := ⟨_, rfl⟩
                     replace H : (if 0 ≤ (ji16) then (bits_Pack.l0 k1 (x4_1.set ((ji13) : Int).toNat (Go.bits .or .u8 (rd x4_1 (ji13)) ((shl .i64 (rd l0 x17_1) (ji16)) % 256))) l0 (l0.length : Int) (wrap64 (x17_1 + 1))) else (none)) = some (r1, r2) := by first | (rw [hji16] at H; exact H) | (simp only [hji16] at H ⊢; exact H)
                     have hji16w : (IntKind.i64.wrap (7 - (Int.tmod x17_1 8))) = ji16 := (i64_w _).trans hji16
                     by_cases c17 : 0 ≤ (ji16)
                     · rw [if_pos c17] at H
                       have c17b0 := eq_true c17
                       have c17b1 : decide (0 ≤ (ji16)) = true := decide_eq_true c17
                       clear c17
                       obtain ⟨ji18, hji18⟩ : ∃ j_ : Int, (shl .i64 (rd l0 x17_1) (ji16)) = j_ := ⟨_, rfl⟩
                       replace H : (bits_Pack.l0 k1 (x4_1.set ((ji13) : Int).toNat (Go.bits .or .u8 (rd x4_1 (ji13)) ((ji18) % 256))) l0 (l0.length : Int) (wrap64 (x17_1 + 1))) = some (r1, r2) := by first | (rw [hji18] at H; exact H) | (simp only [hji18] at H ⊢; exact H)
                       have hji18_ : (IntKind.i64.wrap ((rd l0 x17_1) * 2 ^ min (ji16).toNat 64)) = ji18 := hji18
                       have hji18z : (ji16) ≤ 64 → (IntKind.i64.wrap ((rd l0 x17_1) * 2 ^ (ji16).toNat)) = ji18 := shl_small hji18
                       have hji18y : (wrap64 ((rd l0 x17_1) * 2 ^ min (ji16).toNat 64)) = ji18 := (i64_w _).symm.trans hji18_
                       have hji18x : (ji16) ≤ 64 → (wrap64 ((rd l0 x17_1) * 2 ^ (ji16).toNat)) = ji18 := fun h_ => (i64_w _).symm.trans (hji18z h_)
                       obtain ⟨y180, hy180⟩ : ∃ y_ : List Int, y_ = (x4_1.set ((ji13) : Int).toNat (Go.bits .or .u8 (rd x4_1 (ji13)) ((ji18) % 256))) := ⟨_, rfl⟩
                       replace H : (bits_Pack.l0 k1 y180 l0 (l0.length : Int) (wrap64 (x17_1 + 1))) = some (r1, r2) := by first | (rw [hy180]; with_reducible exact H) | (have H2_ := (Option.bind_some _ _).symm.trans H; rw [hy180]; with_reducible exact H2_) | (have H2_ := (Option.bind_some _ _).symm.trans H; with_reducible exact H2_) | with_reducible exact H | (rw [hy180]; exact H) | exact H
                       have Ny180 := Aside0.mk hy180
                       clear hy180
                       have H' := Aside0.mk H
                       clear H
                       have p178 : 0 ≤ (x17_1 : Int) := of_decide_eq_true (by first | (with_reducible assumption) | assumption)
                       have q178 : x17_1 < (l0.length : Int) := of_decide_eq_true (by first | (with_reducible assumption) | assumption)
                       obtain ⟨ad178, e178, hx178_0⟩ := Kd.at_int HR0.out x17_1 p178 q178
                       cases e178
                       replace hx178_0 := (HB.out.cell (World.block_lt_of_cell? w _ hx178_0)).trans hx178_0
                       replace p178 := eq_true p178
                       replace q178 := eq_true q178
                       try go_wp2
                       (try (rw [drewN_self wr]; generalize hq_ : World.drewN wr _ = wr; have n0_ := Aside0.mk (qrp_ hq_ HO_4.out); have n1_ : Aside0 (Below w.heap.size w wr) := ⟨qbp_ hq_⟩; clear HO_4 HB hq_; have HO_4 := n0_; have HB := n1_; clear n0_ n1_))
                       replace HO_4 := Aside0.mk (Kd.R_drew HO_4.out)
                       replace HB := Aside0.mk (below_drew1 HB.out)
                       obtain ⟨Ao21, co21, eo21⟩ := Kd.R_slice HO_4.out
                       (first | subst eo21 | (injection eo21 with f1_ f2_ f3_; have f4_ := f1_.symm; have f5_ := f3_.symm; clear f1_ f2_ f3_; subst f4_; subst f5_))
                       have p179 : 0 ≤ ((ji13) : Int) := of_decide_eq_true (by first | (with_reducible assumption) | assumption)
                       have q179 : (ji13) < (x4_1.length : Int) := of_decide_eq_true (by first | (with_reducible assumption) | assumption)
                       obtain ⟨ad179, e179, hx179_0⟩ := Kd.at_int (Kd.R_reads' HO_4.out).2.2 (ji13) p179 q179
                       cases e179
                       replace p179 := eq_true p179
                       replace q179 := eq_true q179
                       have p19 : 0 ≤ ((ji13) : Int) := of_decide_eq_true (by first | (with_reducible assumption) | assumption)
                       have q19 : ((ji13) : Int) < ((x4_1.length : Int) : Int) := of_decide_eq_true (by first | (with_reducible assumption) | assumption)
                       obtain ⟨go19, co19, eo19, gb19, gl19, cl19, HG19⟩ := Kd.R_form HO_4.out (by omega)
                       (first | cases eo19 | (injection eo19 with ea_ en_ ec_; (first | subst ea_ | (injection ea_ with ea_; subst ea_)); subst ec_; clear en_))
                       have GB19 := Aside0.mk gb19
                       have GG19 := Aside0.mk HG19
                       clear gb19 gl19 HG19
                       (first | simp only [add_plain] at hx179_0 | skip)
                       obtain ⟨hx19_0, hf19_0⟩ := Kd.R_celln 0 HO_4.out ((ji13) : Int) p19 q19
                       replace p19 := eq_true p19
                       replace q19 := eq_true q19
                       have HP22 := Kd.R_putn HO_4.out ((ji13) : Int) (Go.bits .or .u8 (rd x4_1 (ji13)) ((ji18) % 256))
                       rw [← Ny180.out] at HP22
                       have HQ22 := Aside0.mk HP22
                       clear HP22
                       refine start_ (n := 14) (S := fun w' => w'.cell? ⟨go19, ((ji13)).toNat, none⟩ = some (.int .u8 (rd x4_1 (ji13)))) (ds := [13]) Fl44 (by kernel_rfl) rfl rfl (hx179_0) (fun hHeld => ?_); refine with_tabW bits_Pack.tab9 bits_Pack.bits9 (fun HT_ HW_ => ?_)
                       generalize wr.drew = w20 at HO_4 HB GG19 HQ22 hf19_0 hx179_0 hx19_0 hHeld ⊢
                       refine pur_ (i := 0) (N := some 28) Fl45 (any_of HT_.out (by kernel_rfl)) ?_
                       refine pur_ (i := 1) (N := some 29) Fl46 (any_of HT_.out (by kernel_rfl)) ?_
                       refine pur_ (i := 2) (N := some 30) Fl47 (any_of HT_.out (by kernel_rfl)) ?_
                       refine pur_ (i := 3) (N := some 31) Fl48 (any_of HT_.out (by kernel_rfl)) ?_
                       refine pur_ (i := 5) (N := some 33) Fl49 (any_of HT_.out (by kernel_rfl)) ?_
                       refine pur_ (i := 6) (N := some 34) Fl50 (any_of HT_.out (by kernel_rfl)) ?_
                       refine pur_ (i := 7) (N := some 35) Fl51 (any_of HT_.out (by kernel_rfl)) ?_
                       refine pur_ (i := 8) (N := some 36) Fl52 (any_of HT_.out (by kernel_rfl)) ?_
                       refine pur_ (i := 9) (N := some 37) Fl53 (any_of HT_.out (by kernel_rfl)) ?_
                       refine pur_ (i := 10) (N := some 38) Fl54 (any_of HT_.out (by kernel_rfl)) ?_
                       refine take_ (i := 4) (N := some 32) (v := ?_) (a' := ?_) Fl55 rfl rfl (take_ofW HT_.out HW_.out (by kernel_rfl)) (fun _ _ _ h => h) (Or.inl ⟨by rfl, ?_⟩) hHeld ?_ ?_
                       rotate_left
                       · intro w' s0
                         go_simp
                         with_reducible rfl
                       rotate_left
                       · simp only [Act.put, List.setIfInBounds_toArray, List.set_cons_zero, List.set_cons_succ, i64_w, i32_w]
                         rfl
                       refine pur_ (i := 11) (N := some 39) Fl56 (any_of HT_.out (by kernel_rfl)) ?_
                       refine pur_ (i := 12) (N := some 40) Fl57 (any_of HT_.out (by kernel_rfl)) ?_
                       refine last_ (i := 13) (N := none) Fl58 rfl rfl (one_of HT_.out (by kernel_rfl)) (by decide) (fun K hK => ?_)
                       refine skip_ (w1 := ?_) (by rfl) rfl ?_ ?_
                       rotate_left
                       · go_simp
                         rfl
                       refine hK.out _ _ ?_
                       clear hK K
                       refine done_ (done_of HT_.out (by kernel_rfl)) ?_
                       try go_wp2
                       go_roundg k1
                       case measure => have := HK1.out; omega
                       case rel => exact ⟨(y180), (wrap64 (x17_1 + 1)), (by first | rfl | (simp; done) | (simp [*]; done)), H', ⟨by have := HK1.out; omega⟩, ⟨rp_ HQ22.out⟩, ⟨bp_⟩⟩
                     · rw [if_neg c17] at H
                       exact absurd H (by simp)
                   · rw [if_neg c15] at H
                     exact absurd H (by simp)
                 · rw [if_neg c14] at H
                   exact absurd H (by simp)
               · rw [if_neg c12] at H
                 have c12b0 : ((rd l0 x17_1) == 0) = false := beq_eq_false_iff_ne.mpr c12
                 have c12b1 : ((rd l0 x17_1) != 0) = true := bne_iff_ne.mpr c12
                 by_cases c23 : (rd l0 x17_1) = 1
                 · rw [if_pos c23] at H
                   have c23b0 : ((rd l0 x17_1) == 1) = true := beq_iff_eq.mpr c23
                   have c23b1 : ((rd l0 x17_1) != 1) = false := bne_eq_false_iff_eq.mpr c23
                   clear c23
                   obtain ⟨ji24, hji24⟩ : ∃ j_ : Int, (wrap64 (Int.tdiv x17_1 8)) = j_ := ⟨_, rfl⟩
                   replace H : (if 0 ≤ (ji24) then (if (ji24) < (x4_1.length : Int) then (if 0 ≤ (wrap64 (7 - (Int.tmod x17_1 8))) then (bits_Pack.l0 k1 (x4_1.set ((ji24) : Int).toNat (Go.bits .or .u8 (rd x4_1 (ji24)) ((shl .i64 (rd l0 x17_1) (wrap64 (7 - (Int.tmod x17_1 8)))) % 256))) l0 (l0.length : Int) (wrap64 (x17_1 + 1))) else (none)) else (none)) else (none)) = some (r1, r2) := by first | (rw [hji24] at H; exact H) | (simp only [hji24] at H ⊢; exact H)
                   have hji24w : (IntKind.i64.wrap (Int.tdiv x17_1 8)) = ji24 := (i64_w _).trans hji24
                   by_cases c25 : 0 ≤ (ji24)
                   · rw [if_pos c25] at H
                     have c25b0 : decide (0 ≤ (ji24)) = true := decide_eq_true c25
                     clear c25
                     by_cases c26 : (ji24) < (x4_1.length : Int)
                     · rw [if_pos c26] at H
                       have c26b0 : decide ((ji24) < (x4_1.length : Int)) = true := decide_eq_true c26
                       clear c26
                       obtain ⟨ji27, hji27⟩ : ∃ j_ : Int, (wrap64 (7 - (Int.tmod x17_1 8))) = j_ := ⟨_, rfl⟩
                       replace H : (if 0 ≤ (ji27) then (bits_Pack.l0 k1 (x4_1.set ((ji24) : Int).toNat (Go.bits .or .u8 (rd x4_1 (ji24)) ((shl .i64 (rd l0 x17_1) (ji27)) % 256))) l0 (l0.length : Int) (wrap64 (x17_1 + 1))) else (none)) = some (r1, r2) := by first | (rw [hji27] at H; exact H) | (simp only [hji27] at H ⊢; exact H)
                       have hji27w : (IntKind.i64.wrap (7 - (Int.tmod x17_1 8))) = ji27 := (i64_w _).trans hji27
                       by_cases c28 : 0 ≤ (ji27)
                       · rw [if_pos c28] at H
                         have c28b0 := eq_true c28
                         have c28b1 : decide (0 ≤ (ji27)) = true := decide_eq_true c28
                         clear c28
                         obtain ⟨ji29, hji29⟩ : ∃ j_ : Int, (shl .i64 (rd l0 x17_1) (ji27)) = j_ := ⟨_, rfl⟩
                         replace H : (bits_Pack.l0 k1 (x4_1.set ((ji24) : Int).toNat (Go.bits .or .u8 (rd x4_1 (ji24)) ((ji29) % 256))) l0 (l0.length : Int) (wrap64 (x17_1 + 1))) = some (r1, r2) := by first | (rw [hji29] at H; exact H) | (simp only [hji29] at H ⊢; exact H)
                         have hji29_ : (IntKind.i64.wrap ((rd l0 x17_1) * 2 ^ min (ji27).toNat 64)) = ji29 := hji29
                         have hji29z : (ji27) ≤ 64 → (IntKind.i64.wrap ((rd l0 x17_1) * 2 ^ (ji27).toNat)) = ji29 := shl_small hji29
                         have hji29y : (wrap64 ((rd l0 x17_1) * 2 ^ min (ji27).toNat 64)) = ji29 := (i64_w _).symm.trans hji29_
                         have hji29x : (ji27) ≤ 64 → (wrap64 ((rd l0 x17_1) * 2 ^ (ji27).toNat)) = ji29 := fun h_ => (i64_w _).symm.trans (hji29z h_)
                         obtain ⟨y182, hy182⟩ : ∃ y_ : List Int, y_ = (x4_1.set ((ji24) : Int).toNat (Go.bits .or .u8 (rd x4_1 (ji24)) ((ji29) % 256))) := ⟨_, rfl⟩
                         replace H : (bits_Pack.l0 k1 y182 l0 (l0.length : Int) (wrap64 (x17_1 + 1))) = some (r1, r2) := by first | (rw [hy182]; with_reducible exact H) | (have H2_ := (Option.bind_some _ _).symm.trans H; rw [hy182]; with_reducible exact H2_) | (have H2_ := (Option.bind_some _ _).symm.trans H; with_reducible exact H2_) | with_reducible exact H | (rw [hy182]; exact H) | exact H
                         have Ny182 := Aside0.mk hy182
                         clear hy182
                         have H' := Aside0.mk H
                         clear H
                         have p178 : 0 ≤ (x17_1 : Int) := of_decide_eq_true (by first | (with_reducible assumption) | assumption)
                         have q178 : x17_1 < (l0.length : Int) := of_decide_eq_true (by first | (with_reducible assumption) | assumption)
                         obtain ⟨ad178, e178, hx178_0⟩ := Kd.at_int HR0.out x17_1 p178 q178
                         cases e178
                         replace hx178_0 := (HB.out.cell (World.block_lt_of_cell? w _ hx178_0)).trans hx178_0
                         replace p178 := eq_true p178
                         replace q178 := eq_true q178
                         try go_wp2
                         (try (rw [drewN_self wr]; generalize hq_ : World.drewN wr _ = wr; have n0_ := Aside0.mk (qrp_ hq_ HO_4.out); have n1_ : Aside0 (Below w.heap.size w wr) := ⟨qbp_ hq_⟩; clear HO_4 HB hq_; have HO_4 := n0_; have HB := n1_; clear n0_ n1_))
                         replace HO_4 := Aside0.mk (Kd.R_drew HO_4.out)
                         replace HB := Aside0.mk (below_drew1 HB.out)
                         obtain ⟨Ao32, co32, eo32⟩ := Kd.R_slice HO_4.out
                         (first | subst eo32 | (injection eo32 with f1_ f2_ f3_; have f4_ := f1_.symm; have f5_ := f3_.symm; clear f1_ f2_ f3_; subst f4_; subst f5_))
                         have p181 : 0 ≤ ((ji24) : Int) := of_decide_eq_true (by first | (with_reducible assumption) | assumption)
                         have q181 : (ji24) < (x4_1.length : Int) := of_decide_eq_true (by first | (with_reducible assumption) | assumption)
                         obtain ⟨ad181, e181, hx181_0⟩ := Kd.at_int (Kd.R_reads' HO_4.out).2.2 (ji24) p181 q181
                         cases e181
                         replace p181 := eq_true p181
                         replace q181 := eq_true q181
                         have p30 : 0 ≤ ((ji24) : Int) := of_decide_eq_true (by first | (with_reducible assumption) | assumption)
                         have q30 : ((ji24) : Int) < ((x4_1.length : Int) : Int) := of_decide_eq_true (by first | (with_reducible assumption) | assumption)
                         obtain ⟨go30, co30, eo30, gb30, gl30, cl30, HG30⟩ := Kd.R_form HO_4.out (by omega)
                         (first | cases eo30 | (injection eo30 with ea_ en_ ec_; (first | subst ea_ | (injection ea_ with ea_; subst ea_)); subst ec_; clear en_))
                         have GB30 := Aside0.mk gb30
                         have GG30 := Aside0.mk HG30
                         clear gb30 gl30 HG30
                         (first | simp only [add_plain] at hx181_0 | skip)
                         obtain ⟨hx30_0, hf30_0⟩ := Kd.R_celln 0 HO_4.out ((ji24) : Int) p30 q30
                         replace p30 := eq_true p30
                         replace q30 := eq_true q30
                         have HP33 := Kd.R_putn HO_4.out ((ji24) : Int) (Go.bits .or .u8 (rd x4_1 (ji24)) ((ji29) % 256))
                         rw [← Ny182.out] at HP33
                         have HQ33 := Aside0.mk HP33
                         clear HP33
                         refine start_ (n := 14) (S := fun w' => w'.cell? ⟨go30, ((ji24)).toNat, none⟩ = some (.int .u8 (rd x4_1 (ji24)))) (ds := [13]) Fl44 (by kernel_rfl) rfl rfl (hx181_0) (fun hHeld => ?_); refine with_tabW bits_Pack.tab9 bits_Pack.bits9 (fun HT_ HW_ => ?_)
                         generalize wr.drew = w31 at HO_4 HB GG30 HQ33 hf30_0 hx181_0 hx30_0 hHeld ⊢
                         refine pur_ (i := 0) (N := some 28) Fl45 (any_of HT_.out (by kernel_rfl)) ?_
                         refine pur_ (i := 1) (N := some 29) Fl46 (any_of HT_.out (by kernel_rfl)) ?_
                         refine pur_ (i := 2) (N := some 30) Fl47 (any_of HT_.out (by kernel_rfl)) ?_
                         refine pur_ (i := 3) (N := some 31) Fl48 (any_of HT_.out (by kernel_rfl)) ?_
                         refine pur_ (i := 5) (N := some 33) Fl49 (any_of HT_.out (by kernel_rfl)) ?_
                         refine pur_ (i := 6) (N := some 34) Fl50 (any_of HT_.out (by kernel_rfl)) ?_
                         refine pur_ (i := 7) (N := some 35) Fl51 (any_of HT_.out (by kernel_rfl)) ?_
                         refine pur_ (i := 8) (N := some 36) Fl52 (any_of HT_.out (by kernel_rfl)) ?_
                         refine pur_ (i := 9) (N := some 37) Fl53 (any_of HT_.out (by kernel_rfl)) ?_
                         refine pur_ (i := 10) (N := some 38) Fl54 (any_of HT_.out (by kernel_rfl)) ?_
                         refine take_ (i := 4) (N := some 32) (v := ?_) (a' := ?_) Fl55 rfl rfl (take_ofW HT_.out HW_.out (by kernel_rfl)) (fun _ _ _ h => h) (Or.inl ⟨by rfl, ?_⟩) hHeld ?_ ?_
                         rotate_left
                         · intro w' s0
                           go_simp
                           with_reducible rfl
                         rotate_left
                         · simp only [Act.put, List.setIfInBounds_toArray, List.set_cons_zero, List.set_cons_succ, i64_w, i32_w]
                           rfl
                         refine pur_ (i := 11) (N := some 39) Fl56 (any_of HT_.out (by kernel_rfl)) ?_
                         refine pur_ (i := 12) (N := some 40) Fl57 (any_of HT_.out (by kernel_rfl)) ?_
                         refine last_ (i := 13) (N := none) Fl58 rfl rfl (one_of HT_.out (by kernel_rfl)) (by decide) (fun K hK => ?_)
                         refine skip_ (w1 := ?_) (by rfl) rfl ?_ ?_
                         rotate_left
                         · go_simp
                           rfl
                         refine hK.out _ _ ?_
                         clear hK K
                         refine done_ (done_of HT_.out (by kernel_rfl)) ?_
                         try go_wp2
                         go_roundg k1
                         case measure => have := HK1.out; omega
                         case rel => exact ⟨(y182), (wrap64 (x17_1 + 1)), (by first | rfl | (simp; done) | (simp [*]; done)), H', ⟨by have := HK1.out; omega⟩, ⟨rp_ HQ33.out⟩, ⟨bp_⟩⟩
                       · rw [if_neg c28] at H
                         exact absurd H (by simp)
                     · rw [if_neg c26] at H
                       exact absurd H (by simp)
                   · rw [if_neg c25] at H
                     exact absurd H (by simp)
                 · rw [if_neg c23] at H
                   have c23b0 : ((rd l0 x17_1) == 1) = false := beq_eq_false_iff_ne.mpr c23
                   have c23b1 : ((rd l0 x17_1) != 1) = true := bne_iff_ne.mpr c23
                   simp only [Option.some.injEq, Prod.mk.injEq] at H
                   obtain ⟨rfl, rfl⟩ := H
                   have p178 : 0 ≤ (x17_1 : Int) := of_decide_eq_true (by first | (with_reducible assumption) | assumption)
                   have q178 : x17_1 < (l0.length : Int) := of_decide_eq_true (by first | (with_reducible assumption) | assumption)
                   obtain ⟨ad178, e178, hx178_0⟩ := Kd.at_int HR0.out x17_1 p178 q178
                   cases e178
                   replace hx178_0 := (HB.out.cell (World.block_lt_of_cell? w _ hx178_0)).trans hx178_0
                   replace p178 := eq_true p178
                   replace q178 := eq_true q178
                   go_wp2
                   go_ret2
                   exact ⟨_, by first | rfl | (simp [errW_none, errW_some] <;> rfl) | (simp [*, errW_none, errW_some] <;> rfl), by first | exact Kd.R_nil _ _ _ _ _ | exact Kd.N_nil _ _ _ _ _ | exact Kd.V_nil _ _ _ _ _ | exact Kd.Q_nil _ _ _ _ _ | exact Kd.S_nil _ _ _ _ _, bp_⟩
             · rw [if_neg c11] at H
               exact absurd H (by simp)
           · rw [if_neg c10] at H
             exact absurd H (by simp)
         · rw [if_neg c9] at H
           have c9b0 : decide (x17_1 < (l0.length : Int)) = false := decide_eq_false c9
           clear c9
           simp only [Option.some.injEq, Prod.mk.injEq] at H
           obtain ⟨rfl, rfl⟩ := H
           go_wp2
           go_ret2
           exact ⟨_, by first | rfl | (simp [errW_none, errW_some] <;> rfl) | (simp [*, errW_none, errW_some] <;> rfl), by (with_reducible repeat (first | apply Kd.R_alloc | apply Kd.R_drewN | apply Kd.R_drew)); exact HO_4.out, bp_⟩
     · rw [if_neg c6] at H
       exact absurd H (by simp)
   · rw [if_neg c5] at H
     exact absurd H (by simp)
 · replace c3 := Bool.eq_false_iff.mpr c3
   subst c3
   have H1 : (some (([] : List Int), 1)) = some (r1, r2) := by rw [if_neg (show ¬ (false = true) by decide)] at H; exact H
   clear H
   have H := H1
   clear H1
   simp only [Option.some.injEq, Prod.mk.injEq] at H
   obtain ⟨rfl, rfl⟩ := H
   go_enter Try.func37, Try.ntmps37
   go_wp2_with (first | ((with_reducible refine gate_callee (f := 56) rfl ?_); refine goQ_ (some 9) Try.func56 #[.int .i64 (l0.length : Int)] ?_; (with_reducible refine (bits_sized.calls (l0.length : Int) false _ A2.out).mono ?_); rintro e w' ⟨rfl, ⟨nd, rfl⟩⟩; refine ⟨_, rfl, ?_⟩))
   go_ret2
   exact ⟨_, by first | rfl | (simp [errW_none, errW_some] <;> rfl) | (simp [*, errW_none, errW_some] <;> rfl), by first | exact Kd.R_nil _ _ _ _ _ | exact Kd.N_nil _ _ _ _ _ | exact Kd.V_nil _ _ _ _ _ | exact Kd.Q_nil _ _ _ _ _ | exact Kd.S_nil _ _ _ _ _, bp_⟩

-- NOT PRINTED: function 10 (raw_Write)


/-! ### chequerref06_May: function 52 -/
def chequerref06_May.f (a0_0 : Int) (a0_1 : Int) (a0_2 : Int) (a0_3 : Int) : Option (Bool) := if a0_0 < 1 then (some false) else (if a0_0 > 6 then (some false) else (if a0_1 < 1 then (some false) else (if a0_1 > 4096 then (some false) else (if a0_2 < 1 then (some false) else (if a0_2 > 65536 then (some false) else (if a0_3 < 1 then (some false) else (if a0_3 > 65535 then (some false) else (if a0_3 = 1 then (some true) else ((chequerref06_bits.f a0_0).bind fun t199 => (some (!t199)))))))))))
set_option maxHeartbeats 8000000 in
set_option maxRecDepth 100000 in
theorem chequerref06_May.calls (a0_0 : Int) (a0_1 : Int) (a0_2 : Int) (a0_3 : Int) (r : Bool) (w : World) (h : chequerref06_May.f a0_0 a0_1 a0_2 a0_3 = some r) :
 Calls Try.prog 52 #[.agg #[.int .i64 a0_0, .int .i64 a0_1, .int .i64 a0_2, .int .i64 a0_3]] w fun e w' => e = .returned (.bool r) ∧ Below w.heap.size w w' := by
 have hu23 := Try.underlying23
 have HB := Aside0.mk (Below.refl w.heap.size w)
 have H : (if a0_0 < 1 then (some false) else (if a0_0 > 6 then (some false) else (if a0_1 < 1 then (some false) else (if a0_1 > 4096 then (some false) else (if a0_2 < 1 then (some false) else (if a0_2 > 65536 then (some false) else (if a0_3 < 1 then (some false) else (if a0_3 > 65535 then (some false) else (if a0_3 = 1 then (some true) else ((chequerref06_bits.f a0_0).bind fun t199 => (some (!t199)))))))))))) = some r := h
 clear h
 by_cases c2 : a0_0 < 1
 · rw [if_pos c2] at H
   have c2b0 : decide (a0_0 < 1) = true := decide_eq_true c2
   clear c2
   obtain rfl := Option.some.inj H
   go_enter Try.func52, Try.ntmps52
   go_wp2_with (first | ((with_reducible refine gate_dst (N := 1) rfl ?_); refine box_event ?hg (N := 1) ?hd (cs := #[.int .i64 a0_0, .int .i64 a0_1, .int .i64 a0_2, .int .i64 a0_3]) (t := 23) ?hr ?_; (case hd => rfl); (case hg => rfl); (case hr => first | (go_simp; done) | (go_simp; rfl)); intro gb198 hg w3 hbox hb; have BK198 := Aside0.mk (hbox); have GW198 := Aside0.mk ((by rw [hg]; exact (below_size bp_) : w.heap.size ≤ gb198)); have GE198 := Aside0.mk ((by rw [hg]; exact (below_size bp_) : w.heap.size ≤ gb198)); replace HB := Aside0.mk (below_step bp_ hb); clear hb hbox hg; have hcz4_0 : w3.cell? ⟨gb198, 0, none⟩ = some (.int .i64 a0_0) := (blk_cell BK198.out 0).trans rfl; have hcz4_1 : w3.cell? ⟨gb198, 1, none⟩ = some (.int .i64 a0_1) := (blk_cell BK198.out 1).trans rfl; have hcz4_2 : w3.cell? ⟨gb198, 2, none⟩ = some (.int .i64 a0_2) := (blk_cell BK198.out 2).trans rfl; have hcz4_3 : w3.cell? ⟨gb198, 3, none⟩ = some (.int .i64 a0_3) := (blk_cell BK198.out 3).trans rfl; have hfz4_0 := blk_frozen BK198.out 0; have hfz4_1 := blk_frozen BK198.out 1; have hfz4_2 := blk_frozen BK198.out 2; have hfz4_3 := blk_frozen BK198.out 3))
   go_ret
   exact ⟨by first | rfl | (simp [errW_none, errW_some] <;> rfl) | (simp [*, errW_none, errW_some] <;> rfl), bp_⟩
 · rw [if_neg c2] at H
   have c2b0 : decide (a0_0 < 1) = false := decide_eq_false c2
   clear c2
   by_cases c5 : a0_0 > 6
   · rw [if_pos c5] at H
     have c5b0 : decide (6 < a0_0) = true := decide_eq_true c5
     clear c5
     obtain rfl := Option.some.inj H
     go_enter Try.func52, Try.ntmps52
     go_wp2_with (first | ((with_reducible refine gate_dst (N := 1) rfl ?_); refine box_event ?hg (N := 1) ?hd (cs := #[.int .i64 a0_0, .int .i64 a0_1, .int .i64 a0_2, .int .i64 a0_3]) (t := 23) ?hr ?_; (case hd => rfl); (case hg => rfl); (case hr => first | (go_simp; done) | (go_simp; rfl)); intro gb198 hg w6 hbox hb; have BK198 := Aside0.mk (hbox); have GW198 := Aside0.mk ((by rw [hg]; exact (below_size bp_) : w.heap.size ≤ gb198)); have GE198 := Aside0.mk ((by rw [hg]; exact (below_size bp_) : w.heap.size ≤ gb198)); replace HB := Aside0.mk (below_step bp_ hb); clear hb hbox hg; have hcz7_0 : w6.cell? ⟨gb198, 0, none⟩ = some (.int .i64 a0_0) := (blk_cell BK198.out 0).trans rfl; have hcz7_1 : w6.cell? ⟨gb198, 1, none⟩ = some (.int .i64 a0_1) := (blk_cell BK198.out 1).trans rfl; have hcz7_2 : w6.cell? ⟨gb198, 2, none⟩ = some (.int .i64 a0_2) := (blk_cell BK198.out 2).trans rfl; have hcz7_3 : w6.cell? ⟨gb198, 3, none⟩ = some (.int .i64 a0_3) := (blk_cell BK198.out 3).trans rfl; have hfz7_0 := blk_frozen BK198.out 0; have hfz7_1 := blk_frozen BK198.out 1; have hfz7_2 := blk_frozen BK198.out 2; have hfz7_3 := blk_frozen BK198.out 3))
     go_ret
     exact ⟨by first | rfl | (simp [errW_none, errW_some] <;> rfl) | (simp [*, errW_none, errW_some] <;> rfl), bp_⟩
   · rw [if_neg c5] at H
     have c5b0 : decide (6 < a0_0) = false := decide_eq_false c5
     clear c5
     by_cases c8 : a0_1 < 1
     · rw [if_pos c8] at H
       have c8b0 : decide (a0_1 < 1) = true := decide_eq_true c8
       clear c8
       obtain rfl := Option.some.inj H
       go_enter Try.func52, Try.ntmps52
       go_wp2_with (first | ((with_reducible refine gate_dst (N := 1) rfl ?_); refine box_event ?hg (N := 1) ?hd (cs := #[.int .i64 a0_0, .int .i64 a0_1, .int .i64 a0_2, .int .i64 a0_3]) (t := 23) ?hr ?_; (case hd => rfl); (case hg => rfl); (case hr => first | (go_simp; done) | (go_simp; rfl)); intro gb198 hg w9 hbox hb; have BK198 := Aside0.mk (hbox); have GW198 := Aside0.mk ((by rw [hg]; exact (below_size bp_) : w.heap.size ≤ gb198)); have GE198 := Aside0.mk ((by rw [hg]; exact (below_size bp_) : w.heap.size ≤ gb198)); replace HB := Aside0.mk (below_step bp_ hb); clear hb hbox hg; have hcz10_0 : w9.cell? ⟨gb198, 0, none⟩ = some (.int .i64 a0_0) := (blk_cell BK198.out 0).trans rfl; have hcz10_1 : w9.cell? ⟨gb198, 1, none⟩ = some (.int .i64 a0_1) := (blk_cell BK198.out 1).trans rfl; have hcz10_2 : w9.cell? ⟨gb198, 2, none⟩ = some (.int .i64 a0_2) := (blk_cell BK198.out 2).trans rfl; have hcz10_3 : w9.cell? ⟨gb198, 3, none⟩ = some (.int .i64 a0_3) := (blk_cell BK198.out 3).trans rfl; have hfz10_0 := blk_frozen BK198.out 0; have hfz10_1 := blk_frozen BK198.out 1; have hfz10_2 := blk_frozen BK198.out 2; have hfz10_3 := blk_frozen BK198.out 3))
       go_ret
       exact ⟨by first | rfl | (simp [errW_none, errW_some] <;> rfl) | (simp [*, errW_none, errW_some] <;> rfl), bp_⟩
     · rw [if_neg c8] at H
       have c8b0 : decide (a0_1 < 1) = false := decide_eq_false c8
       clear c8
       by_cases c11 : a0_1 > 4096
       · rw [if_pos c11] at H
         have c11b0 : decide (4096 < a0_1) = true := decide_eq_true c11
         clear c11
         obtain rfl := Option.some.inj H
         go_enter Try.func52, Try.ntmps52
         go_wp2_with (first | ((with_reducible refine gate_dst (N := 1) rfl ?_); refine box_event ?hg (N := 1) ?hd (cs := #[.int .i64 a0_0, .int .i64 a0_1, .int .i64 a0_2, .int .i64 a0_3]) (t := 23) ?hr ?_; (case hd => rfl); (case hg => rfl); (case hr => first | (go_simp; done) | (go_simp; rfl)); intro gb198 hg w12 hbox hb; have BK198 := Aside0.mk (hbox); have GW198 := Aside0.mk ((by rw [hg]; exact (below_size bp_) : w.heap.size ≤ gb198)); have GE198 := Aside0.mk ((by rw [hg]; exact (below_size bp_) : w.heap.size ≤ gb198)); replace HB := Aside0.mk (below_step bp_ hb); clear hb hbox hg; have hcz13_0 : w12.cell? ⟨gb198, 0, none⟩ = some (.int .i64 a0_0) := (blk_cell BK198.out 0).trans rfl; have hcz13_1 : w12.cell? ⟨gb198, 1, none⟩ = some (.int .i64 a0_1) := (blk_cell BK198.out 1).trans rfl; have hcz13_2 : w12.cell? ⟨gb198, 2, none⟩ = some (.int .i64 a0_2) := (blk_cell BK198.out 2).trans rfl; have hcz13_3 : w12.cell? ⟨gb198, 3, none⟩ = some (.int .i64 a0_3) := (blk_cell BK198.out 3).trans rfl; have hfz13_0 := blk_frozen BK198.out 0; have hfz13_1 := blk_frozen BK198.out 1; have hfz13_2 := blk_frozen BK198.out 2; have hfz13_3 := blk_frozen BK198.out 3))
         go_ret
         exact ⟨by first | rfl | (simp [errW_none, errW_some] <;> rfl) | (simp [*, errW_none, errW_some] <;> rfl), bp_⟩
       · rw [if_neg c11] at H
         have c11b0 : decide (4096 < a0_1) = false := decide_eq_false c11
         clear c11
         by_cases c14 : a0_2 < 1
         · rw [if_pos c14] at H
           have c14b0 : decide (a0_2 < 1) = true := decide_eq_true c14
           clear c14
           obtain rfl := Option.some.inj H
           go_enter Try.func52, Try.ntmps52
           go_wp2_with (first | ((with_reducible refine gate_dst (N := 1) rfl ?_); refine box_event ?hg (N := 1) ?hd (cs := #[.int .i64 a0_0, .int .i64 a0_1, .int .i64 a0_2, .int .i64 a0_3]) (t := 23) ?hr ?_; (case hd => rfl); (case hg => rfl); (case hr => first | (go_simp; done) | (go_simp; rfl)); intro gb198 hg w15 hbox hb; have BK198 := Aside0.mk (hbox); have GW198 := Aside0.mk ((by rw [hg]; exact (below_size bp_) : w.heap.size ≤ gb198)); have GE198 := Aside0.mk ((by rw [hg]; exact (below_size bp_) : w.heap.size ≤ gb198)); replace HB := Aside0.mk (below_step bp_ hb); clear hb hbox hg; have hcz16_0 : w15.cell? ⟨gb198, 0, none⟩ = some (.int .i64 a0_0) := (blk_cell BK198.out 0).trans rfl; have hcz16_1 : w15.cell? ⟨gb198, 1, none⟩ = some (.int .i64 a0_1) := (blk_cell BK198.out 1).trans rfl; have hcz16_2 : w15.cell? ⟨gb198, 2, none⟩ = some (.int .i64 a0_2) := (blk_cell BK198.out 2).trans rfl; have hcz16_3 : w15.cell? ⟨gb198, 3, none⟩ = some (.int .i64 a0_3) := (blk_cell BK198.out 3).trans rfl; have hfz16_0 := blk_frozen BK198.out 0; have hfz16_1 := blk_frozen BK198.out 1; have hfz16_2 := blk_frozen BK198.out 2; have hfz16_3 := blk_frozen BK198.out 3))
           go_ret
           exact ⟨by first | rfl | (simp [errW_none, errW_some] <;> rfl) | (simp [*, errW_none, errW_some] <;> rfl), bp_⟩
         · rw [if_neg c14] at H
           have c14b0 : decide (a0_2 < 1) = false := decide_eq_false c14
           clear c14
           by_cases c17 : a0_2 > 65536
           · rw [if_pos c17] at H
             have c17b0 : decide (65536 < a0_2) = true := decide_eq_true c17
             clear c17
             obtain rfl := Option.some.inj H
             go_enter Try.func52, Try.ntmps52
             go_wp2_with (first | ((with_reducible refine gate_dst (N := 1) rfl ?_); refine box_event ?hg (N := 1) ?hd (cs := #[.int .i64 a0_0, .int .i64 a0_1, .int .i64 a0_2, .int .i64 a0_3]) (t := 23) ?hr ?_; (case hd => rfl); (case hg => rfl); (case hr => first | (go_simp; done) | (go_simp; rfl)); intro gb198 hg w18 hbox hb; have BK198 := Aside0.mk (hbox); have GW198 := Aside0.mk ((by rw [hg]; exact (below_size bp_) : w.heap.size ≤ gb198)); have GE198 := Aside0.mk ((by rw [hg]; exact (below_size bp_) : w.heap.size ≤ gb198)); replace HB := Aside0.mk (below_step bp_ hb); clear hb hbox hg; have hcz19_0 : w18.cell? ⟨gb198, 0, none⟩ = some (.int .i64 a0_0) := (blk_cell BK198.out 0).trans rfl; have hcz19_1 : w18.cell? ⟨gb198, 1, none⟩ = some (.int .i64 a0_1) := (blk_cell BK198.out 1).trans rfl; have hcz19_2 : w18.cell? ⟨gb198, 2, none⟩ = some (.int .i64 a0_2) := (blk_cell BK198.out 2).trans rfl; have hcz19_3 : w18.cell? ⟨gb198, 3, none⟩ = some (.int .i64 a0_3) := (blk_cell BK198.out 3).trans rfl; have hfz19_0 := blk_frozen BK198.out 0; have hfz19_1 := blk_frozen BK198.out 1; have hfz19_2 := blk_frozen BK198.out 2; have hfz19_3 := blk_frozen BK198.out 3))
             go_ret
             exact ⟨by first | rfl | (simp [errW_none, errW_some] <;> rfl) | (simp [*, errW_none, errW_some] <;> rfl), bp_⟩
           · rw [if_neg c17] at H
             have c17b0 : decide (65536 < a0_2) = false := decide_eq_false c17
             clear c17
             by_cases c20 : a0_3 < 1
             · rw [if_pos c20] at H
               have c20b0 : decide (a0_3 < 1) = true := decide_eq_true c20
               clear c20
               obtain rfl := Option.some.inj H
               go_enter Try.func52, Try.ntmps52
               go_wp2_with (first | ((with_reducible refine gate_dst (N := 1) rfl ?_); refine box_event ?hg (N := 1) ?hd (cs := #[.int .i64 a0_0, .int .i64 a0_1, .int .i64 a0_2, .int .i64 a0_3]) (t := 23) ?hr ?_; (case hd => rfl); (case hg => rfl); (case hr => first | (go_simp; done) | (go_simp; rfl)); intro gb198 hg w21 hbox hb; have BK198 := Aside0.mk (hbox); have GW198 := Aside0.mk ((by rw [hg]; exact (below_size bp_) : w.heap.size ≤ gb198)); have GE198 := Aside0.mk ((by rw [hg]; exact (below_size bp_) : w.heap.size ≤ gb198)); replace HB := Aside0.mk (below_step bp_ hb); clear hb hbox hg; have hcz22_0 : w21.cell? ⟨gb198, 0, none⟩ = some (.int .i64 a0_0) := (blk_cell BK198.out 0).trans rfl; have hcz22_1 : w21.cell? ⟨gb198, 1, none⟩ = some (.int .i64 a0_1) := (blk_cell BK198.out 1).trans rfl; have hcz22_2 : w21.cell? ⟨gb198, 2, none⟩ = some (.int .i64 a0_2) := (blk_cell BK198.out 2).trans rfl; have hcz22_3 : w21.cell? ⟨gb198, 3, none⟩ = some (.int .i64 a0_3) := (blk_cell BK198.out 3).trans rfl; have hfz22_0 := blk_frozen BK198.out 0; have hfz22_1 := blk_frozen BK198.out 1; have hfz22_2 := blk_frozen BK198.out 2; have hfz22_3 := blk_frozen BK198.out 3))
               go_ret
               exact ⟨by first | rfl | (simp [errW_none, errW_some] <;> rfl) | (simp [*, errW_none, errW_some] <;> rfl), bp_⟩
             · rw [if_neg c20] at H
               have c20b0 : decide (a0_3 < 1) = false := decide_eq_false c20
               clear c20
               by_cases c23 : a0_3 > 65535
               · rw [if_pos c23] at H
                 have c23b0 : decide (65535 < a0_3) = true := decide_eq_true c23
                 clear c23
                 obtain rfl := Option.some.inj H
                 go_enter Try.func52, Try.ntmps52
                 go_wp2_with (first | ((with_reducible refine gate_dst (N := 1) rfl ?_); refine box_event ?hg (N := 1) ?hd (cs := #[.int .i64 a0_0, .int .i64 a0_1, .int .i64 a0_2, .int .i64 a0_3]) (t := 23) ?hr ?_; (case hd => rfl); (case hg => rfl); (case hr => first | (go_simp; done) | (go_simp; rfl)); intro gb198 hg w24 hbox hb; have BK198 := Aside0.mk (hbox); have GW198 := Aside0.mk ((by rw [hg]; exact (below_size bp_) : w.heap.size ≤ gb198)); have GE198 := Aside0.mk ((by rw [hg]; exact (below_size bp_) : w.heap.size ≤ gb198)); replace HB := Aside0.mk (below_step bp_ hb); clear hb hbox hg; have hcz25_0 : w24.cell? ⟨gb198, 0, none⟩ = some (.int .i64 a0_0) := (blk_cell BK198.out 0).trans rfl; have hcz25_1 : w24.cell? ⟨gb198, 1, none⟩ = some (.int .i64 a0_1) := (blk_cell BK198.out 1).trans rfl; have hcz25_2 : w24.cell? ⟨gb198, 2, none⟩ = some (.int .i64 a0_2) := (blk_cell BK198.out 2).trans rfl; have hcz25_3 : w24.cell? ⟨gb198, 3, none⟩ = some (.int .i64 a0_3) := (blk_cell BK198.out 3).trans rfl; have hfz25_0 := blk_frozen BK198.out 0; have hfz25_1 := blk_frozen BK198.out 1; have hfz25_2 := blk_frozen BK198.out 2; have hfz25_3 := blk_frozen BK198.out 3))
                 go_ret
                 exact ⟨by first | rfl | (simp [errW_none, errW_some] <;> rfl) | (simp [*, errW_none, errW_some] <;> rfl), bp_⟩
               · rw [if_neg c23] at H
                 have c23b0 : decide (65535 < a0_3) = false := decide_eq_false c23
                 clear c23
                 by_cases c26 : a0_3 = 1
                 · rw [if_pos c26] at H
                   have c26b0 : (a0_3 == 1) = true := beq_iff_eq.mpr c26
                   have c26b1 : (a0_3 != 1) = false := bne_eq_false_iff_eq.mpr c26
                   clear c26
                   obtain rfl := Option.some.inj H
                   go_enter Try.func52, Try.ntmps52
                   go_wp2_with (first | ((with_reducible refine gate_dst (N := 1) rfl ?_); refine box_event ?hg (N := 1) ?hd (cs := #[.int .i64 a0_0, .int .i64 a0_1, .int .i64 a0_2, .int .i64 a0_3]) (t := 23) ?hr ?_; (case hd => rfl); (case hg => rfl); (case hr => first | (go_simp; done) | (go_simp; rfl)); intro gb198 hg w27 hbox hb; have BK198 := Aside0.mk (hbox); have GW198 := Aside0.mk ((by rw [hg]; exact (below_size bp_) : w.heap.size ≤ gb198)); have GE198 := Aside0.mk ((by rw [hg]; exact (below_size bp_) : w.heap.size ≤ gb198)); replace HB := Aside0.mk (below_step bp_ hb); clear hb hbox hg; have hcz28_0 : w27.cell? ⟨gb198, 0, none⟩ = some (.int .i64 a0_0) := (blk_cell BK198.out 0).trans rfl; have hcz28_1 : w27.cell? ⟨gb198, 1, none⟩ = some (.int .i64 a0_1) := (blk_cell BK198.out 1).trans rfl; have hcz28_2 : w27.cell? ⟨gb198, 2, none⟩ = some (.int .i64 a0_2) := (blk_cell BK198.out 2).trans rfl; have hcz28_3 : w27.cell? ⟨gb198, 3, none⟩ = some (.int .i64 a0_3) := (blk_cell BK198.out 3).trans rfl; have hfz28_0 := blk_frozen BK198.out 0; have hfz28_1 := blk_frozen BK198.out 1; have hfz28_2 := blk_frozen BK198.out 2; have hfz28_3 := blk_frozen BK198.out 3))
                   go_ret
                   exact ⟨by first | rfl | (simp [errW_none, errW_some] <;> rfl) | (simp [*, errW_none, errW_some] <;> rfl), bp_⟩
                 · rw [if_neg c26] at H
                   have c26b0 : (a0_3 == 1) = false := beq_eq_false_iff_ne.mpr c26
                   have c26b1 : (a0_3 != 1) = true := bne_iff_ne.mpr c26
                   replace H := Option.bind_eq_some_iff.mp H
                   obtain ⟨t199, A290, H⟩ := H
                   replace H : (some (!t199)) = some r := H
                   have A29 := Aside0.mk A290
                   clear A290
                   obtain rfl := Option.some.inj H
                   go_enter Try.func52, Try.ntmps52
                   go_wp2_with (first | ((with_reducible refine gate_dst (N := 1) rfl ?_); refine box_event ?hg (N := 1) ?hd (cs := #[.int .i64 a0_0, .int .i64 a0_1, .int .i64 a0_2, .int .i64 a0_3]) (t := 23) ?hr ?_; (case hd => rfl); (case hg => rfl); (case hr => first | (go_simp; done) | (go_simp; rfl)); intro gb198 hg w30 hbox hb; have BK198 := Aside0.mk (hbox); have GW198 := Aside0.mk ((by rw [hg]; exact (below_size bp_) : w.heap.size ≤ gb198)); have GE198 := Aside0.mk ((by rw [hg]; exact (below_size bp_) : w.heap.size ≤ gb198)); replace HB := Aside0.mk (below_step bp_ hb); clear hb hbox hg; have hcz31_0 : w30.cell? ⟨gb198, 0, none⟩ = some (.int .i64 a0_0) := (blk_cell BK198.out 0).trans rfl; have hcz31_1 : w30.cell? ⟨gb198, 1, none⟩ = some (.int .i64 a0_1) := (blk_cell BK198.out 1).trans rfl; have hcz31_2 : w30.cell? ⟨gb198, 2, none⟩ = some (.int .i64 a0_2) := (blk_cell BK198.out 2).trans rfl; have hcz31_3 : w30.cell? ⟨gb198, 3, none⟩ = some (.int .i64 a0_3) := (blk_cell BK198.out 3).trans rfl; have hfz31_0 := blk_frozen BK198.out 0; have hfz31_1 := blk_frozen BK198.out 1; have hfz31_2 := blk_frozen BK198.out 2; have hfz31_3 := blk_frozen BK198.out 3) | (go_at_call 51; (with_reducible refine (chequerref06_bits.calls a0_0 t199 _ A29.out).mono ?_); rintro e w' ⟨rfl, ⟨nd, rfl⟩⟩))
                   go_ret
                   exact ⟨by first | rfl | (simp [errW_none, errW_some] <;> rfl) | (simp [*, errW_none, errW_some] <;> rfl), bp_⟩

/-! ### chequerref09_May: function 28 -/
def chequerref09_May.f (a0_0 : Int) (a0_1 : Int) (a0_2 : Int) (a0_3 : Int) : Option (Bool) := (chequerref06_May.f a0_0 a0_1 a0_2 a0_3).bind fun t201 => (if t201 = true then (some (decide (a0_0 > 3))) else (some false))
set_option maxHeartbeats 8000000 in
set_option maxRecDepth 100000 in
theorem chequerref09_May.calls (a0_0 : Int) (a0_1 : Int) (a0_2 : Int) (a0_3 : Int) (r : Bool) (w : World) (h : chequerref09_May.f a0_0 a0_1 a0_2 a0_3 = some r) :
    Calls Try.prog 28 #[.agg #[.int .i64 a0_0, .int .i64 a0_1, .int .i64 a0_2, .int .i64 a0_3]] w fun e w' => e = .returned (.bool r) ∧ Below w.heap.size w w' := by
  have hu23 := Try.underlying23
  have HB := Aside0.mk (Below.refl w.heap.size w)
  have H : ((chequerref06_May.f a0_0 a0_1 a0_2 a0_3).bind fun t201 => (if t201 = true then (some (decide (a0_0 > 3))) else (some false))) = some r := h
  clear h
  replace H := Option.bind_eq_some_iff.mp H
  obtain ⟨t201, A20, H⟩ := H
  replace H : (if t201 = true then (some (decide (a0_0 > 3))) else (some false)) = some r := H
  have A2 := Aside0.mk A20
  clear A20
  by_cases c3 : t201 = true
  · subst c3
    have H1 : (some (decide (a0_0 > 3))) = some r := by rw [if_pos rfl] at H; exact H
    clear H
    have H := H1
    clear H1
    obtain rfl := Option.some.inj H
    go_enter Try.func28, Try.ntmps28
    go_wp2_with (first | ((with_reducible refine gate_dst (N := 1) rfl ?_); refine box_event ?hg (N := 1) ?hd (cs := #[.int .i64 a0_0, .int .i64 a0_1, .int .i64 a0_2, .int .i64 a0_3]) (t := 23) ?hr ?_; (case hd => rfl); (case hg => rfl); (case hr => first | (go_simp; done) | (go_simp; rfl)); intro gb200 hg w4 hbox hb; have n0_ := Aside0.mk (below_step (by repeat (first | (with_reducible first | exact HB.out | apply below_alloc | apply pw_below_drewN | apply below_drew1) | exact HB.out)) hb); have n1_ := Aside0.mk (hbox); have n2_ := Aside0.mk ((by rw [hg]; exact (below_size (by repeat (first | (with_reducible first | exact HB.out | apply below_alloc | apply pw_below_drewN | apply below_drew1) | exact HB.out))) : w.heap.size ≤ gb200)); have n3_ := Aside0.mk ((by rw [hg]; exact (below_size (by repeat (first | (with_reducible first | exact HB.out | apply below_alloc | apply pw_below_drewN | apply below_drew1) | exact HB.out))) : w.heap.size ≤ gb200)); clear HB; have HB := n0_; have BK200 := n1_; have GW200 := n2_; have GE200 := n3_; clear n0_ n1_ n2_ n3_; clear hb hbox hg; have hcz5_0 : w4.cell? ⟨gb200, 0, none⟩ = some (.int .i64 a0_0) := (blk_cell BK200.out 0).trans rfl; have hcz5_1 : w4.cell? ⟨gb200, 1, none⟩ = some (.int .i64 a0_1) := (blk_cell BK200.out 1).trans rfl; have hcz5_2 : w4.cell? ⟨gb200, 2, none⟩ = some (.int .i64 a0_2) := (blk_cell BK200.out 2).trans rfl; have hcz5_3 : w4.cell? ⟨gb200, 3, none⟩ = some (.int .i64 a0_3) := (blk_cell BK200.out 3).trans rfl; have hfz5_0 := blk_frozen BK200.out 0; have hfz5_1 := blk_frozen BK200.out 1; have hfz5_2 := blk_frozen BK200.out 2; have hfz5_3 := blk_frozen BK200.out 3) | ((with_reducible refine gate_callee (f := 52) rfl ?_); refine goesL_ (some 5) rfl rfl Try.func52 (by kernel_rfl) rfl #[.agg #[.int .i64 a0_0, .int .i64 a0_1, .int .i64 a0_2, .int .i64 a0_3]] rfl (by (try simp only [List.map_toArray, List.map_cons, List.map_nil]); first | done | rfl | (simp only [List.length_drop, List.length_take]; rfl)) ?_; (with_reducible refine (chequerref06_May.calls a0_0 a0_1 a0_2 a0_3 true _ A2.out).mono ?_); rintro e w6 ⟨rfl, hb⟩; refine ⟨_, rfl, ?_⟩; have n0_ := Aside0.mk (blk_below (g := gb200) (o := .cells #[.int .i64 a0_0, .int .i64 a0_1, .int .i64 a0_2, .int .i64 a0_3] 23 (0, 0)) (by (with_reducible repeat (first | refine blk_drewN ?_ _ | refine blk_drew ?_ | refine blk_alloc ?_ _)); exact BK200.out) hb); have n1_ := Aside0.mk (below_step (by repeat (first | (with_reducible first | exact HB.out | apply below_alloc | apply pw_below_drewN | apply below_drew1 | refine below_set ?_ GE200.out) | exact HB.out)) hb); clear BK200; clear HB; have BK200 := n0_; have HB := n1_; clear n0_ n1_; (try clear hb); (try clear hb2); (try clear hk); (try clear hi); have hcz7_0 : w6.cell? ⟨gb200, 0, none⟩ = some (.int .i64 a0_0) := (blk_cell BK200.out 0).trans rfl; have hcz7_1 : w6.cell? ⟨gb200, 1, none⟩ = some (.int .i64 a0_1) := (blk_cell BK200.out 1).trans rfl; have hcz7_2 : w6.cell? ⟨gb200, 2, none⟩ = some (.int .i64 a0_2) := (blk_cell BK200.out 2).trans rfl; have hcz7_3 : w6.cell? ⟨gb200, 3, none⟩ = some (.int .i64 a0_3) := (blk_cell BK200.out 3).trans rfl; have hfz7_0 := blk_frozen BK200.out 0; have hfz7_1 := blk_frozen BK200.out 1; have hfz7_2 := blk_frozen BK200.out 2; have hfz7_3 := blk_frozen BK200.out 3))
    go_ret
    exact ⟨by first | rfl | (simp [errW_none, errW_some] <;> rfl) | (simp [*, errW_none, errW_some] <;> rfl), by repeat (first | (with_reducible first | exact HB.out | apply below_alloc | apply pw_below_drewN | apply below_drew1 | refine below_set ?_ GE200.out) | exact HB.out)⟩
  · replace c3 := Bool.eq_false_iff.mpr c3
    subst c3
    have H1 : (some false) = some r := by rw [if_neg (show ¬ (false = true) by decide)] at H; exact H
    clear H
    have H := H1
    clear H1
    obtain rfl := Option.some.inj H
    go_enter Try.func28, Try.ntmps28
    go_wp2_with (first | ((with_reducible refine gate_dst (N := 1) rfl ?_); refine box_event ?hg (N := 1) ?hd (cs := #[.int .i64 a0_0, .int .i64 a0_1, .int .i64 a0_2, .int .i64 a0_3]) (t := 23) ?hr ?_; (case hd => rfl); (case hg => rfl); (case hr => first | (go_simp; done) | (go_simp; rfl)); intro gb200 hg w8 hbox hb; have n0_ := Aside0.mk (below_step (by repeat (first | (with_reducible first | exact HB.out | apply below_alloc | apply pw_below_drewN | apply below_drew1) | exact HB.out)) hb); have n1_ := Aside0.mk (hbox); have n2_ := Aside0.mk ((by rw [hg]; exact (below_size (by repeat (first | (with_reducible first | exact HB.out | apply below_alloc | apply pw_below_drewN | apply below_drew1) | exact HB.out))) : w.heap.size ≤ gb200)); have n3_ := Aside0.mk ((by rw [hg]; exact (below_size (by repeat (first | (with_reducible first | exact HB.out | apply below_alloc | apply pw_below_drewN | apply below_drew1) | exact HB.out))) : w.heap.size ≤ gb200)); clear HB; have HB := n0_; have BK200 := n1_; have GW200 := n2_; have GE200 := n3_; clear n0_ n1_ n2_ n3_; clear hb hbox hg; have hcz9_0 : w8.cell? ⟨gb200, 0, none⟩ = some (.int .i64 a0_0) := (blk_cell BK200.out 0).trans rfl; have hcz9_1 : w8.cell? ⟨gb200, 1, none⟩ = some (.int .i64 a0_1) := (blk_cell BK200.out 1).trans rfl; have hcz9_2 : w8.cell? ⟨gb200, 2, none⟩ = some (.int .i64 a0_2) := (blk_cell BK200.out 2).trans rfl; have hcz9_3 : w8.cell? ⟨gb200, 3, none⟩ = some (.int .i64 a0_3) := (blk_cell BK200.out 3).trans rfl; have hfz9_0 := blk_frozen BK200.out 0; have hfz9_1 := blk_frozen BK200.out 1; have hfz9_2 := blk_frozen BK200.out 2; have hfz9_3 := blk_frozen BK200.out 3) | ((with_reducible refine gate_callee (f := 52) rfl ?_); refine goesL_ (some 5) rfl rfl Try.func52 (by kernel_rfl) rfl #[.agg #[.int .i64 a0_0, .int .i64 a0_1, .int .i64 a0_2, .int .i64 a0_3]] rfl (by (try simp only [List.map_toArray, List.map_cons, List.map_nil]); first | done | rfl | (simp only [List.length_drop, List.length_take]; rfl)) ?_; (with_reducible refine (chequerref06_May.calls a0_0 a0_1 a0_2 a0_3 false _ A2.out).mono ?_); rintro e w10 ⟨rfl, hb⟩; refine ⟨_, rfl, ?_⟩; have n0_ := Aside0.mk (below_step (by repeat (first | (with_reducible first | exact HB.out | apply below_alloc | apply pw_below_drewN | apply below_drew1) | exact HB.out)) hb); clear HB; have HB := n0_; clear n0_; (try clear hb); (try clear hb2); (try clear hk); (try clear hi)))
    go_ret
    exact ⟨by first | rfl | (simp [errW_none, errW_some] <;> rfl) | (simp [*, errW_none, errW_some] <;> rfl), by repeat (first | (with_reducible first | exact HB.out | apply below_alloc | apply pw_below_drewN | apply below_drew1) | exact HB.out)⟩


/-! ### chequerref01_Unpack: function 40 -/
def chequerref01_Unpack.f (a0 : Int) : Option (List Int) := if (IntKind.u64.wrap (Int.tdiv a0 281474976710656)) = 3 then (some (([wrap64 (Int.tdiv (wrap64 (Int.tmod a0 281474976710656)) 4294967296), Int.tmod (wrap64 (Int.tdiv (wrap64 (Int.tmod a0 281474976710656)) 65536)) 65536, Int.tmod (wrap64 (Int.tmod a0 281474976710656)) 65536] : List Int))) else (if (IntKind.u64.wrap (Int.tdiv a0 281474976710656)) = 1 then (if (wrap64 (Int.tmod a0 281474976710656)) < 65536 then (some (([wrap64 (Int.tmod a0 281474976710656)] : List Int))) else (some ([] : List Int))) else (some ([] : List Int)))
set_option maxHeartbeats 8000000 in
set_option maxRecDepth 100000 in
theorem chequerref01_Unpack.calls (a0 : Int) (r : List Int) (w : World) (h : chequerref01_Unpack.f a0 = some r) :
 Calls Try.prog 40 #[.int .u64 a0] w fun e w' => ∃ v0_ : Value, e = .returned (v0_) ∧ Kd.R (Kd.int .i64) 3 w' w.heap.size (fun _ => True) v0_ r ∧ Below w.heap.size w w' := by
 have HB := Aside0.mk (Below.refl w.heap.size w)
 have H : (if (IntKind.u64.wrap (Int.tdiv a0 281474976710656)) = 3 then (some (([wrap64 (Int.tdiv (wrap64 (Int.tmod a0 281474976710656)) 4294967296), Int.tmod (wrap64 (Int.tdiv (wrap64 (Int.tmod a0 281474976710656)) 65536)) 65536, Int.tmod (wrap64 (Int.tmod a0 281474976710656)) 65536] : List Int))) else (if (IntKind.u64.wrap (Int.tdiv a0 281474976710656)) = 1 then (if (wrap64 (Int.tmod a0 281474976710656)) < 65536 then (some (([wrap64 (Int.tmod a0 281474976710656)] : List Int))) else (some ([] : List Int))) else (some ([] : List Int)))) = some r := h
 clear h
 by_cases c2 : (IntKind.u64.wrap (Int.tdiv a0 281474976710656)) = 3
 · rw [if_pos c2] at H
   have c2b0 : ((IntKind.u64.wrap (Int.tdiv a0 281474976710656)) == 3) = true := beq_iff_eq.mpr c2
   have c2b1 : ((IntKind.u64.wrap (Int.tdiv a0 281474976710656)) != 3) = false := bne_eq_false_iff_eq.mpr c2
   clear c2
   obtain ⟨y202, hy202⟩ : ∃ y_ : List Int, y_ = (([wrap64 (Int.tdiv (wrap64 (Int.tmod a0 281474976710656)) 4294967296), Int.tmod (wrap64 (Int.tdiv (wrap64 (Int.tmod a0 281474976710656)) 65536)) 65536, Int.tmod (wrap64 (Int.tmod a0 281474976710656)) 65536] : List Int)) := ⟨_, rfl⟩
   replace H : (some y202) = some r := by first | (rw [hy202]; with_reducible exact H) | (have H2_ := (Option.bind_some _ _).symm.trans H; rw [hy202]; with_reducible exact H2_) | (have H2_ := (Option.bind_some _ _).symm.trans H; with_reducible exact H2_) | with_reducible exact H | (rw [hy202]; exact H) | exact H
   have Ny202 := Aside0.mk hy202
   clear hy202
   obtain rfl := Option.some.inj H
   go_enter Try.func40, Try.ntmps40
   go_wp2_with (first | ((with_reducible refine gate_dst (N := 19) rfl ?_); refine Kd.R_lit (Kd.int .i64) _ 3 ?hg (N := 19) ?hd (xs := ([wrap64 (Int.tdiv (wrap64 (Int.tmod a0 281474976710656)) 4294967296), Int.tmod (wrap64 (Int.tdiv (wrap64 (Int.tmod a0 281474976710656)) 65536)) 65536, Int.tmod (wrap64 (Int.tmod a0 281474976710656)) 65536] : List Int)) (inner := [.int .i64 (wrap64 (Int.tdiv (wrap64 (Int.tmod a0 281474976710656)) 4294967296)), .int .i64 (Int.tmod (wrap64 (Int.tdiv (wrap64 (Int.tmod a0 281474976710656)) 65536)) 65536), .int .i64 (Int.tmod (wrap64 (Int.tmod a0 281474976710656)) 65536)]) (ok := fun _ => True) (okp := fun _ => True) ?hr ?hp (fun _ hk => hk) trivial (Below.refl _ _) (Nat.le_refl _) (by simp) ?_; (case hd => rfl); (case hg => rfl); (case hr => first | (go_simp; done) | (go_simp; rfl)); (case hp => exact (Reps.one (show Kd.M (Kd.int .i64) _ _ _ (wrap64 (Int.tdiv (wrap64 (Int.tmod a0 281474976710656)) 4294967296)) [.int .i64 (wrap64 (Int.tdiv (wrap64 (Int.tmod a0 281474976710656)) 4294967296))] from rfl) (Reps.one (show Kd.M (Kd.int .i64) _ _ _ (Int.tmod (wrap64 (Int.tdiv (wrap64 (Int.tmod a0 281474976710656)) 65536)) 65536) [.int .i64 (Int.tmod (wrap64 (Int.tdiv (wrap64 (Int.tmod a0 281474976710656)) 65536)) 65536)] from rfl) (Reps.one (show Kd.M (Kd.int .i64) _ _ _ (Int.tmod (wrap64 (Int.tmod a0 281474976710656)) 65536) [.int .i64 (Int.tmod (wrap64 (Int.tmod a0 281474976710656)) 65536)] from rfl) (Reps.none _ _))))); intro v203 w3 ho4 hb hg_ hnew_; clear hg_ hnew_; (first | rw [← Ny202.out] at ho4 | (simp only [Int.reduceToNat] at ho4; rw [← Ny202.out] at ho4)); have HO204 := Aside0.mk (Kd.R_lower ho4 (below_size bp_)); replace HB := Aside0.mk (below_step bp_ hb); clear hb ho4))
   go_ret
   exact ⟨_, by first | rfl | (simp [errW_none, errW_some] <;> rfl) | (simp [*, errW_none, errW_some] <;> rfl), by (with_reducible repeat (first | apply Kd.R_alloc | apply Kd.R_drewN | apply Kd.R_drew)); exact HO204.out, bp_⟩
 · rw [if_neg c2] at H
   have c2b0 : ((IntKind.u64.wrap (Int.tdiv a0 281474976710656)) == 3) = false := beq_eq_false_iff_ne.mpr c2
   have c2b1 : ((IntKind.u64.wrap (Int.tdiv a0 281474976710656)) != 3) = true := bne_iff_ne.mpr c2
   by_cases c5 : (IntKind.u64.wrap (Int.tdiv a0 281474976710656)) = 1
   · rw [if_pos c5] at H
     have c5b0 : ((IntKind.u64.wrap (Int.tdiv a0 281474976710656)) == 1) = true := beq_iff_eq.mpr c5
     have c5b1 : ((IntKind.u64.wrap (Int.tdiv a0 281474976710656)) != 1) = false := bne_eq_false_iff_eq.mpr c5
     clear c5
     by_cases c6 : (wrap64 (Int.tmod a0 281474976710656)) < 65536
     · rw [if_pos c6] at H
       have c6b0 : decide ((wrap64 (Int.tmod a0 281474976710656)) < 65536) = true := decide_eq_true c6
       clear c6
       obtain ⟨y205, hy205⟩ : ∃ y_ : List Int, y_ = (([wrap64 (Int.tmod a0 281474976710656)] : List Int)) := ⟨_, rfl⟩
       replace H : (some y205) = some r := by first | (rw [hy205]; with_reducible exact H) | (have H2_ := (Option.bind_some _ _).symm.trans H; rw [hy205]; with_reducible exact H2_) | (have H2_ := (Option.bind_some _ _).symm.trans H; with_reducible exact H2_) | with_reducible exact H | (rw [hy205]; exact H) | exact H
       have Ny205 := Aside0.mk hy205
       clear hy205
       obtain rfl := Option.some.inj H
       go_enter Try.func40, Try.ntmps40
       go_wp2_with (first | ((with_reducible refine gate_dst (N := 27) rfl ?_); refine Kd.R_lit (Kd.int .i64) _ 3 ?hg (N := 27) ?hd (xs := ([wrap64 (Int.tmod a0 281474976710656)] : List Int)) (inner := [.int .i64 (wrap64 (Int.tmod a0 281474976710656))]) (ok := fun _ => True) (okp := fun _ => True) ?hr ?hp (fun _ hk => hk) trivial (Below.refl _ _) (Nat.le_refl _) (by simp) ?_; (case hd => rfl); (case hg => rfl); (case hr => first | (go_simp; done) | (go_simp; rfl)); (case hp => exact (Reps.one (show Kd.M (Kd.int .i64) _ _ _ (wrap64 (Int.tmod a0 281474976710656)) [.int .i64 (wrap64 (Int.tmod a0 281474976710656))] from rfl) (Reps.none _ _))); intro v206 w7 ho8 hb hg_ hnew_; clear hg_ hnew_; (first | rw [← Ny205.out] at ho8 | (simp only [Int.reduceToNat] at ho8; rw [← Ny205.out] at ho8)); have HO207 := Aside0.mk (Kd.R_lower ho8 (below_size bp_)); replace HB := Aside0.mk (below_step bp_ hb); clear hb ho8))
       go_ret
       exact ⟨_, by first | rfl | (simp [errW_none, errW_some] <;> rfl) | (simp [*, errW_none, errW_some] <;> rfl), by (with_reducible repeat (first | apply Kd.R_alloc | apply Kd.R_drewN | apply Kd.R_drew)); exact HO207.out, bp_⟩
     · rw [if_neg c6] at H
       have c6b0 : decide ((wrap64 (Int.tmod a0 281474976710656)) < 65536) = false := decide_eq_false c6
       clear c6
       obtain rfl := Option.some.inj H
       go_enter Try.func40, Try.ntmps40
       go_wp2
       go_ret
       exact ⟨_, by first | rfl | (simp [errW_none, errW_some] <;> rfl) | (simp [*, errW_none, errW_some] <;> rfl), by first | exact Kd.R_nil _ _ _ _ _ | exact Kd.N_nil _ _ _ _ _ | exact Kd.V_nil _ _ _ _ _ | exact Kd.Q_nil _ _ _ _ _ | exact Kd.S_nil _ _ _ _ _, bp_⟩
   · rw [if_neg c5] at H
     have c5b0 : ((IntKind.u64.wrap (Int.tdiv a0 281474976710656)) == 1) = false := beq_eq_false_iff_ne.mpr c5
     have c5b1 : ((IntKind.u64.wrap (Int.tdiv a0 281474976710656)) != 1) = true := bne_iff_ne.mpr c5
     obtain rfl := Option.some.inj H
     go_enter Try.func40, Try.ntmps40
     go_wp2
     go_ret
     exact ⟨_, by first | rfl | (simp [errW_none, errW_some] <;> rfl) | (simp [*, errW_none, errW_some] <;> rfl), by first | exact Kd.R_nil _ _ _ _ _ | exact Kd.N_nil _ _ _ _ _ | exact Kd.V_nil _ _ _ _ _ | exact Kd.Q_nil _ _ _ _ _ | exact Kd.S_nil _ _ _ _ _, bp_⟩


/-! ### chequerref01_Format: function 57 -/
def chequerref01_Format.f (a0_0 : Int) (a0_1 : Int) : Option (Bool) := if a0_0 = 1 then (if a0_1 > 0 then (some (decide (a0_1 < 65536))) else (some false)) else (if a0_0 = 3 then (if a0_1 > 0 then (some (decide (a0_1 < 65536))) else (some false)) else (some false))
set_option maxHeartbeats 8000000 in
set_option maxRecDepth 100000 in
theorem chequerref01_Format.calls (a0_0 : Int) (a0_1 : Int) (r : Bool) (w : World) (h : chequerref01_Format.f a0_0 a0_1 = some r) :
 Calls Try.prog 57 #[.agg #[.int .i64 a0_0, .int .i64 a0_1]] w fun e w' => e = .returned (.bool r) ∧ Below w.heap.size w w' := by
 have hu60 := Try.underlying60
 have HB := Aside0.mk (Below.refl w.heap.size w)
 have H : (if a0_0 = 1 then (if a0_1 > 0 then (some (decide (a0_1 < 65536))) else (some false)) else (if a0_0 = 3 then (if a0_1 > 0 then (some (decide (a0_1 < 65536))) else (some false)) else (some false))) = some r := h
 clear h
 by_cases c2 : a0_0 = 1
 · rw [if_pos c2] at H
   have c2b0 : (a0_0 == 1) = true := beq_iff_eq.mpr c2
   have c2b1 : (a0_0 != 1) = false := bne_eq_false_iff_eq.mpr c2
   clear c2
   by_cases c3 : a0_1 > 0
   · rw [if_pos c3] at H
     have c3b0 : decide (0 < a0_1) = true := decide_eq_true c3
     clear c3
     obtain rfl := Option.some.inj H
     go_enter Try.func57, Try.ntmps57
     go_wp2_with (first | ((with_reducible refine gate_dst (N := 1) rfl ?_); refine box_event ?hg (N := 1) ?hd (cs := #[.int .i64 a0_0, .int .i64 a0_1]) (t := 60) ?hr ?_; (case hd => rfl); (case hg => rfl); (case hr => first | (go_simp; done) | (go_simp; rfl)); intro gb208 hg w4 hbox hb; have BK208 := Aside0.mk (hbox); have GW208 := Aside0.mk ((by rw [hg]; exact (below_size bp_) : w.heap.size ≤ gb208)); have GE208 := Aside0.mk ((by rw [hg]; exact (below_size bp_) : w.heap.size ≤ gb208)); replace HB := Aside0.mk (below_step bp_ hb); clear hb hbox hg; have hcz5_0 : w4.cell? ⟨gb208, 0, none⟩ = some (.int .i64 a0_0) := (blk_cell BK208.out 0).trans rfl; have hcz5_1 : w4.cell? ⟨gb208, 1, none⟩ = some (.int .i64 a0_1) := (blk_cell BK208.out 1).trans rfl; have hfz5_0 := blk_frozen BK208.out 0; have hfz5_1 := blk_frozen BK208.out 1))
     go_ret
     exact ⟨by first | rfl | (simp [errW_none, errW_some] <;> rfl) | (simp [*, errW_none, errW_some] <;> rfl), bp_⟩
   · rw [if_neg c3] at H
     have c3b0 : decide (0 < a0_1) = false := decide_eq_false c3
     clear c3
     obtain rfl := Option.some.inj H
     go_enter Try.func57, Try.ntmps57
     go_wp2_with (first | ((with_reducible refine gate_dst (N := 1) rfl ?_); refine box_event ?hg (N := 1) ?hd (cs := #[.int .i64 a0_0, .int .i64 a0_1]) (t := 60) ?hr ?_; (case hd => rfl); (case hg => rfl); (case hr => first | (go_simp; done) | (go_simp; rfl)); intro gb208 hg w6 hbox hb; have BK208 := Aside0.mk (hbox); have GW208 := Aside0.mk ((by rw [hg]; exact (below_size bp_) : w.heap.size ≤ gb208)); have GE208 := Aside0.mk ((by rw [hg]; exact (below_size bp_) : w.heap.size ≤ gb208)); replace HB := Aside0.mk (below_step bp_ hb); clear hb hbox hg; have hcz7_0 : w6.cell? ⟨gb208, 0, none⟩ = some (.int .i64 a0_0) := (blk_cell BK208.out 0).trans rfl; have hcz7_1 : w6.cell? ⟨gb208, 1, none⟩ = some (.int .i64 a0_1) := (blk_cell BK208.out 1).trans rfl; have hfz7_0 := blk_frozen BK208.out 0; have hfz7_1 := blk_frozen BK208.out 1))
     go_ret
     exact ⟨by first | rfl | (simp [errW_none, errW_some] <;> rfl) | (simp [*, errW_none, errW_some] <;> rfl), bp_⟩
 · rw [if_neg c2] at H
   have c2b0 : (a0_0 == 1) = false := beq_eq_false_iff_ne.mpr c2
   have c2b1 : (a0_0 != 1) = true := bne_iff_ne.mpr c2
   by_cases c8 : a0_0 = 3
   · rw [if_pos c8] at H
     have c8b0 : (a0_0 == 3) = true := beq_iff_eq.mpr c8
     have c8b1 : (a0_0 != 3) = false := bne_eq_false_iff_eq.mpr c8
     clear c8
     by_cases c9 : a0_1 > 0
     · rw [if_pos c9] at H
       have c9b0 : decide (0 < a0_1) = true := decide_eq_true c9
       clear c9
       obtain rfl := Option.some.inj H
       go_enter Try.func57, Try.ntmps57
       go_wp2_with (first | ((with_reducible refine gate_dst (N := 1) rfl ?_); refine box_event ?hg (N := 1) ?hd (cs := #[.int .i64 a0_0, .int .i64 a0_1]) (t := 60) ?hr ?_; (case hd => rfl); (case hg => rfl); (case hr => first | (go_simp; done) | (go_simp; rfl)); intro gb208 hg w10 hbox hb; have BK208 := Aside0.mk (hbox); have GW208 := Aside0.mk ((by rw [hg]; exact (below_size bp_) : w.heap.size ≤ gb208)); have GE208 := Aside0.mk ((by rw [hg]; exact (below_size bp_) : w.heap.size ≤ gb208)); replace HB := Aside0.mk (below_step bp_ hb); clear hb hbox hg; have hcz11_0 : w10.cell? ⟨gb208, 0, none⟩ = some (.int .i64 a0_0) := (blk_cell BK208.out 0).trans rfl; have hcz11_1 : w10.cell? ⟨gb208, 1, none⟩ = some (.int .i64 a0_1) := (blk_cell BK208.out 1).trans rfl; have hfz11_0 := blk_frozen BK208.out 0; have hfz11_1 := blk_frozen BK208.out 1))
       go_ret
       exact ⟨by first | rfl | (simp [errW_none, errW_some] <;> rfl) | (simp [*, errW_none, errW_some] <;> rfl), bp_⟩
     · rw [if_neg c9] at H
       have c9b0 : decide (0 < a0_1) = false := decide_eq_false c9
       clear c9
       obtain rfl := Option.some.inj H
       go_enter Try.func57, Try.ntmps57
       go_wp2_with (first | ((with_reducible refine gate_dst (N := 1) rfl ?_); refine box_event ?hg (N := 1) ?hd (cs := #[.int .i64 a0_0, .int .i64 a0_1]) (t := 60) ?hr ?_; (case hd => rfl); (case hg => rfl); (case hr => first | (go_simp; done) | (go_simp; rfl)); intro gb208 hg w12 hbox hb; have BK208 := Aside0.mk (hbox); have GW208 := Aside0.mk ((by rw [hg]; exact (below_size bp_) : w.heap.size ≤ gb208)); have GE208 := Aside0.mk ((by rw [hg]; exact (below_size bp_) : w.heap.size ≤ gb208)); replace HB := Aside0.mk (below_step bp_ hb); clear hb hbox hg; have hcz13_0 : w12.cell? ⟨gb208, 0, none⟩ = some (.int .i64 a0_0) := (blk_cell BK208.out 0).trans rfl; have hcz13_1 : w12.cell? ⟨gb208, 1, none⟩ = some (.int .i64 a0_1) := (blk_cell BK208.out 1).trans rfl; have hfz13_0 := blk_frozen BK208.out 0; have hfz13_1 := blk_frozen BK208.out 1))
       go_ret
       exact ⟨by first | rfl | (simp [errW_none, errW_some] <;> rfl) | (simp [*, errW_none, errW_some] <;> rfl), bp_⟩
   · rw [if_neg c8] at H
     have c8b0 : (a0_0 == 3) = false := beq_eq_false_iff_ne.mpr c8
     have c8b1 : (a0_0 != 3) = true := bne_iff_ne.mpr c8
     obtain rfl := Option.some.inj H
     go_enter Try.func57, Try.ntmps57
     go_wp2_with (first | ((with_reducible refine gate_dst (N := 1) rfl ?_); refine box_event ?hg (N := 1) ?hd (cs := #[.int .i64 a0_0, .int .i64 a0_1]) (t := 60) ?hr ?_; (case hd => rfl); (case hg => rfl); (case hr => first | (go_simp; done) | (go_simp; rfl)); intro gb208 hg w14 hbox hb; have BK208 := Aside0.mk (hbox); have GW208 := Aside0.mk ((by rw [hg]; exact (below_size bp_) : w.heap.size ≤ gb208)); have GE208 := Aside0.mk ((by rw [hg]; exact (below_size bp_) : w.heap.size ≤ gb208)); replace HB := Aside0.mk (below_step bp_ hb); clear hb hbox hg; have hcz15_0 : w14.cell? ⟨gb208, 0, none⟩ = some (.int .i64 a0_0) := (blk_cell BK208.out 0).trans rfl; have hcz15_1 : w14.cell? ⟨gb208, 1, none⟩ = some (.int .i64 a0_1) := (blk_cell BK208.out 1).trans rfl; have hfz15_0 := blk_frozen BK208.out 0; have hfz15_1 := blk_frozen BK208.out 1))
     go_ret
     exact ⟨by first | rfl | (simp [errW_none, errW_some] <;> rfl) | (simp [*, errW_none, errW_some] <;> rfl), bp_⟩


/-! ### chequerref01_Fits: function 39 -/
def chequerref01_Fits.l0 : Nat → List Int → Int → Int → Int → Option (Bool)
 | 0, _, _, _, _ => none
 | k + 1, x5, x6, x210000, x210001 => if x6 < (x5.length : Int) then (if 0 ≤ x6 then (if (rd x5 x6) > x210001 then (some false) else (chequerref01_Fits.l0 k x5 (wrap64 (x6 + 1)) x210000 x210001)) else (none)) else ((chequerref01_Format.f x210000 x210001).bind fun t214 => (if t214 = true then (some ((x5.length : Int) == x210000)) else (some false)))
def chequerref01_Fits.f (k : Nat) (a0 : Int) (a1_0 : Int) (a1_1 : Int) : Option (Bool) := (chequerref01_Unpack.f a0).bind fun t210 => (chequerref01_Fits.l0 k t210 0 a1_0 a1_1)
theorem chequerref01_Fits.mono_l : ∀ k, (∀ y0 y1 y2 y3, LeO (chequerref01_Fits.l0 k y0 y1 y2 y3) (chequerref01_Fits.l0 (k + 1) y0 y1 y2 y3))
 | 0 => fun _ _ _ _ r h => by simp [chequerref01_Fits.l0] at h
 | k + 1 => by
  have ih0 := chequerref01_Fits.mono_l k
  · intro y0 y1 y2 y3
    unfold chequerref01_Fits.l0
    repeat' first
    | (with_reducible exact ih0 _ _ _ _)
    | (with_reducible exact LeO.refl _)
    | (with_reducible exact LeO.none _)
    | (with_reducible refine LeO.ite ?_ ?_)
    | (with_reducible refine LeO.bind ?_ (fun _ => ?_))
    | exact ih0 _ _ _ _
    | exact LeO.none _
    | refine LeO.ite ?_ ?_
    | refine LeO.bind ?_ (fun _ => ?_)
theorem chequerref01_Fits.mono : ∀ a0 a1 a2 k, LeO (chequerref01_Fits.f k a0 a1 a2) (chequerref01_Fits.f (k + 1) a0 a1 a2) := by
 intro a0 a1 a2 k
 have ih0 := chequerref01_Fits.mono_l k
 unfold chequerref01_Fits.f
 repeat' first
  | (with_reducible exact ih0 _ _ _ _)
  | (with_reducible exact LeO.refl _)
  | (with_reducible exact LeO.none _)
  | (with_reducible refine LeO.ite ?_ ?_)
  | (with_reducible refine LeO.bind ?_ (fun _ => ?_))
  | exact ih0 _ _ _ _
  | exact LeO.none _
  | refine LeO.ite ?_ ?_
  | refine LeO.bind ?_ (fun _ => ?_)
set_option maxHeartbeats 8000000 in
set_option maxRecDepth 100000 in
theorem chequerref01_Fits.calls (k : Nat) (a0 : Int) (a1_0 : Int) (a1_1 : Int) (r : Bool) (w : World) (h : chequerref01_Fits.f k a0 a1_0 a1_1 = some r) :
 Calls Try.prog 39 #[.int .u64 a0, .agg #[.int .i64 a1_0, .int .i64 a1_1]] w fun e w' => e = .returned (.bool r) ∧ Below w.heap.size w w' := by
 have hu60 := Try.underlying60
 have HB := Aside0.mk (Below.refl w.heap.size w)
 have H : ((chequerref01_Unpack.f a0).bind fun t210 => (chequerref01_Fits.l0 k t210 0 a1_0 a1_1)) = some r := h
 clear h
 replace H := Option.bind_eq_some_iff.mp H
 obtain ⟨t210, A30, H⟩ := H
 replace H : (chequerref01_Fits.l0 k t210 0 a1_0 a1_1) = some r := H
 have A3 := Aside0.mk A30
 clear A30
 have H' := Aside0.mk H
 clear H
 go_enter Try.func39, Try.ntmps39
 go_wp2_with (first | ((with_reducible refine gate_dst (N := 3) rfl ?_); (try (refine gate_guard (by rfl) ?_; dsimp only)); refine box_event ?hg (N := 3) ?hd (cs := #[.int .i64 a1_0, .int .i64 a1_1]) (t := 60) ?hr ?_; (case hd => rfl); (case hg => rfl); (case hr => first | (go_simp; done) | (go_simp; rfl)); intro gb209 hg w4 hbox hb; have BK209 := Aside0.mk (hbox); have GW209 := Aside0.mk ((by rw [hg]; exact (below_size bp_) : w.heap.size ≤ gb209)); have GE209 := Aside0.mk ((by rw [hg]; exact (below_size bp_) : w.heap.size ≤ gb209)); replace HB := Aside0.mk (below_step bp_ hb); clear hb hbox hg) | (go_at_call 40; (with_reducible refine (chequerref01_Unpack.calls a0 t210 _ A3.out).mono ?_); rintro e w5 ⟨v211, rfl, ho0, hb⟩; have HO212 := Aside0.mk (Kd.R_lower ho0 (below_size bp_)); replace BK209 := Aside0.mk (blk_below (hp_ BK209.out) hb); replace HB := Aside0.mk (below_step bp_ hb); (try clear hb); (try clear hb2); (try clear hk); (try clear hi); (try clear ho0)))
 repeat (go_quiet (first | ((with_reducible refine gate_dst (N := 3) rfl ?_); (try (refine gate_guard (by rfl) ?_; dsimp only)); refine box_event ?hg (N := 3) ?hd (cs := #[.int .i64 a1_0, .int .i64 a1_1]) (t := 60) ?hr ?_; (case hd => rfl); (case hg => rfl); (case hr => first | (go_simp; done) | (go_simp; rfl)); intro gb209 hg w4 hbox hb; have n0_ := Aside0.mk (below_step bp_ hb); have n1_ := Aside0.mk (hbox); have n2_ := Aside0.mk ((by rw [hg]; exact (below_size bp_) : w.heap.size ≤ gb209)); have n3_ := Aside0.mk ((by rw [hg]; exact (below_size bp_) : w.heap.size ≤ gb209)); clear HB; have HB := n0_; have BK209 := n1_; have GW209 := n2_; have GE209 := n3_; clear n0_ n1_ n2_ n3_; clear hb hbox hg) | (go_at_call 40; (with_reducible refine (chequerref01_Unpack.calls a0 t210 _ A3.out).mono ?_); rintro e w5 ⟨v211, rfl, ho0, hb⟩; have n0_ := Aside0.mk (Kd.R_lower ho0 (below_size bp_)); have n1_ := Aside0.mk (blk_below (hp_ BK209.out) hb); have n2_ := Aside0.mk (below_step bp_ hb); clear BK209; clear HB; have HO212 := n0_; have BK209 := n1_; have HB := n2_; clear n0_ n1_ n2_; (try clear hb); (try clear hb2); (try clear hk); (try clear hi); (try clear ho0))); try go_wp2_with (first | ((with_reducible refine gate_dst (N := 3) rfl ?_); (try (refine gate_guard (by rfl) ?_; dsimp only)); refine box_event ?hg (N := 3) ?hd (cs := #[.int .i64 a1_0, .int .i64 a1_1]) (t := 60) ?hr ?_; (case hd => rfl); (case hg => rfl); (case hr => first | (go_simp; done) | (go_simp; rfl)); intro gb209 hg w4 hbox hb; have n0_ := Aside0.mk (below_step bp_ hb); have n1_ := Aside0.mk (hbox); have n2_ := Aside0.mk ((by rw [hg]; exact (below_size bp_) : w.heap.size ≤ gb209)); have n3_ := Aside0.mk ((by rw [hg]; exact (below_size bp_) : w.heap.size ≤ gb209)); clear HB; have HB := n0_; have BK209 := n1_; have GW209 := n2_; have GE209 := n3_; clear n0_ n1_ n2_ n3_; clear hb hbox hg) | (go_at_call 40; (with_reducible refine (chequerref01_Unpack.calls a0 t210 _ A3.out).mono ?_); rintro e w5 ⟨v211, rfl, ho0, hb⟩; have n0_ := Aside0.mk (Kd.R_lower ho0 (below_size bp_)); have n1_ := Aside0.mk (blk_below (hp_ BK209.out) hb); have n2_ := Aside0.mk (below_step bp_ hb); clear BK209; clear HB; have HO212 := n0_; have BK209 := n1_; have HB := n2_; clear n0_ n1_ n2_; (try clear hb); (try clear hb2); (try clear hk); (try clear hi); (try clear ho0))))
 go_loopg [6] k (fun kq v6 w' => ∃ (x6_1 : Int), v6 = .int .i64 x6_1 ∧ Aside0 (chequerref01_Fits.l0 kq t210 x6_1 a1_0 a1_1 = some r) ∧ Aside0 (kq ≤ k) ∧ Aside0 (Kd.R (Kd.int .i64) 3 w' w.heap.size (fun _ => True) v211 t210) ∧ Aside0 (w'.heap[gb209]? = some (.cells #[.int .i64 a1_0, .int .i64 a1_1] 60 (0, 0))) ∧ Aside0 (Below w.heap.size w w'))
 case atStart => exact ⟨(0), (by first | rfl | (simp; done) | (simp [*]; done)), H', ⟨Nat.le_refl _⟩, ⟨rp_ HO212.out⟩, ⟨hp_ BK209.out⟩, ⟨bp_⟩⟩
 case round =>
  clear H'
  try clear p2
  try clear c3
  obtain ⟨x6_1, rfl, HA, HK1, HO_5, BK209, HB⟩ := hrel
  cases gk with
  | zero => exact absurd HA.out (by simp [chequerref01_Fits.l0])
  | succ k1 =>
   have H := HA.out
   clear HA
   simp only [chequerref01_Fits.l0] at H
   by_cases c6 : x6_1 < (t210.length : Int)
   · rw [if_pos c6] at H
     have c6b0 : decide (x6_1 < (t210.length : Int)) = true := decide_eq_true c6
     clear c6
     by_cases c7 : 0 ≤ x6_1
     · rw [if_pos c7] at H
       have c7b0 : decide (0 ≤ x6_1) = true := decide_eq_true c7
       clear c7
       by_cases c8 : (rd t210 x6_1) > a1_1
       · rw [if_pos c8] at H
         have c8b0 : decide (a1_1 < (rd t210 x6_1)) = true := decide_eq_true c8
         clear c8
         obtain rfl := Option.some.inj H
         obtain ⟨Ao9, co9, eo9⟩ := Kd.R_slice HO_5.out
         subst eo9
         have p213 : 0 ≤ (x6_1 : Int) := of_decide_eq_true (by first | (with_reducible assumption) | assumption)
         have q213 : x6_1 < (t210.length : Int) := of_decide_eq_true (by first | (with_reducible assumption) | assumption)
         obtain ⟨ad213, e213, hx213_0⟩ := Kd.at_int (Kd.R_reads' HO_5.out).2.2 x6_1 p213 q213
         cases e213
         replace p213 := eq_true p213
         replace q213 := eq_true q213
         have hcz10_0 : wr.cell? ⟨gb209, 0, none⟩ = some (.int .i64 a1_0) := (blk_cell BK209.out 0).trans rfl
         have hcz10_1 : wr.cell? ⟨gb209, 1, none⟩ = some (.int .i64 a1_1) := (blk_cell BK209.out 1).trans rfl
         have hfz10_0 := blk_frozen BK209.out 0
         have hfz10_1 := blk_frozen BK209.out 1
         go_wp2
         repeat (go_quiet (fail); try go_wp2)
         go_ret
         exact ⟨by first | rfl | (simp [errW_none, errW_some] <;> rfl) | (simp [*, errW_none, errW_some] <;> rfl), bp_⟩
       · rw [if_neg c8] at H
         have c8b0 : decide (a1_1 < (rd t210 x6_1)) = false := decide_eq_false c8
         clear c8
         have H' := Aside0.mk H
         clear H
         obtain ⟨Ao11, co11, eo11⟩ := Kd.R_slice HO_5.out
         subst eo11
         have p213 : 0 ≤ (x6_1 : Int) := of_decide_eq_true (by first | (with_reducible assumption) | assumption)
         have q213 : x6_1 < (t210.length : Int) := of_decide_eq_true (by first | (with_reducible assumption) | assumption)
         obtain ⟨ad213, e213, hx213_0⟩ := Kd.at_int (Kd.R_reads' HO_5.out).2.2 x6_1 p213 q213
         cases e213
         replace p213 := eq_true p213
         replace q213 := eq_true q213
         have hcz12_0 : wr.cell? ⟨gb209, 0, none⟩ = some (.int .i64 a1_0) := (blk_cell BK209.out 0).trans rfl
         have hcz12_1 : wr.cell? ⟨gb209, 1, none⟩ = some (.int .i64 a1_1) := (blk_cell BK209.out 1).trans rfl
         have hfz12_0 := blk_frozen BK209.out 0
         have hfz12_1 := blk_frozen BK209.out 1
         go_wp2
         repeat (go_quiet (fail); try go_wp2)
         go_roundg k1
         case measure => have := HK1.out; omega
         case rel => exact ⟨(wrap64 (x6_1 + 1)), (by first | rfl | (simp; done) | (simp [*]; done)), H', ⟨by have := HK1.out; omega⟩, ⟨rp_ HO_5.out⟩, ⟨hp_ BK209.out⟩, ⟨bp_⟩⟩
     · rw [if_neg c7] at H
       exact absurd H (by simp)
   · rw [if_neg c6] at H
     have c6b0 : decide (x6_1 < (t210.length : Int)) = false := decide_eq_false c6
     clear c6
     replace H := Option.bind_eq_some_iff.mp H
     obtain ⟨t214, A130, H⟩ := H
     replace H : (if t214 = true then (some ((t210.length : Int) == a1_0)) else (some false)) = some r := H
     have A13 := Aside0.mk A130
     clear A130
     by_cases c14 : t214 = true
     · subst c14
       have H1 : (some ((t210.length : Int) == a1_0)) = some r := by rw [if_pos rfl] at H; exact H
       clear H
       have H := H1
       clear H1
       obtain rfl := Option.some.inj H
       obtain ⟨Ao15, co15, eo15⟩ := Kd.R_slice HO_5.out
       subst eo15
       have hcz16_0 : wr.cell? ⟨gb209, 0, none⟩ = some (.int .i64 a1_0) := (blk_cell BK209.out 0).trans rfl
       have hcz16_1 : wr.cell? ⟨gb209, 1, none⟩ = some (.int .i64 a1_1) := (blk_cell BK209.out 1).trans rfl
       have hfz16_0 := blk_frozen BK209.out 0
       have hfz16_1 := blk_frozen BK209.out 1
       go_wp2_with (first | (go_at_call 57; (with_reducible refine (chequerref01_Format.calls a1_0 a1_1 true _ A13.out).mono ?_); rintro e w17 ⟨rfl, hb⟩; replace HO_5 := Aside0.mk (Kd.R_below (rp_ HO_5.out) hb); replace BK209 := Aside0.mk (blk_below (hp_ BK209.out) hb); replace HB := Aside0.mk (below_step bp_ hb); (try clear hb); (try clear hb2); (try clear hk); (try clear hi); have hcz18_0 : w17.cell? ⟨gb209, 0, none⟩ = some (.int .i64 a1_0) := (blk_cell BK209.out 0).trans rfl; have hcz18_1 : w17.cell? ⟨gb209, 1, none⟩ = some (.int .i64 a1_1) := (blk_cell BK209.out 1).trans rfl; have hfz18_0 := blk_frozen BK209.out 0; have hfz18_1 := blk_frozen BK209.out 1))
       repeat (go_quiet (first | (go_at_call 57; (with_reducible refine (chequerref01_Format.calls a1_0 a1_1 true _ A13.out).mono ?_); rintro e w17 ⟨rfl, hb⟩; have n0_ := Aside0.mk (Kd.R_below (rp_ HO_5.out) hb); have n1_ := Aside0.mk (blk_below (hp_ BK209.out) hb); have n2_ := Aside0.mk (below_step bp_ hb); clear HO_5; clear BK209; clear HB; have HO_5 := n0_; have BK209 := n1_; have HB := n2_; clear n0_ n1_ n2_; (try clear hb); (try clear hb2); (try clear hk); (try clear hi); have hcz18_0 : w17.cell? ⟨gb209, 0, none⟩ = some (.int .i64 a1_0) := (blk_cell BK209.out 0).trans rfl; have hcz18_1 : w17.cell? ⟨gb209, 1, none⟩ = some (.int .i64 a1_1) := (blk_cell BK209.out 1).trans rfl; have hfz18_0 := blk_frozen BK209.out 0; have hfz18_1 := blk_frozen BK209.out 1)); try go_wp2_with (first | (go_at_call 57; (with_reducible refine (chequerref01_Format.calls a1_0 a1_1 true _ A13.out).mono ?_); rintro e w17 ⟨rfl, hb⟩; have n0_ := Aside0.mk (Kd.R_below (rp_ HO_5.out) hb); have n1_ := Aside0.mk (blk_below (hp_ BK209.out) hb); have n2_ := Aside0.mk (below_step bp_ hb); clear HO_5; clear BK209; clear HB; have HO_5 := n0_; have BK209 := n1_; have HB := n2_; clear n0_ n1_ n2_; (try clear hb); (try clear hb2); (try clear hk); (try clear hi); have hcz18_0 : w17.cell? ⟨gb209, 0, none⟩ = some (.int .i64 a1_0) := (blk_cell BK209.out 0).trans rfl; have hcz18_1 : w17.cell? ⟨gb209, 1, none⟩ = some (.int .i64 a1_1) := (blk_cell BK209.out 1).trans rfl; have hfz18_0 := blk_frozen BK209.out 0; have hfz18_1 := blk_frozen BK209.out 1)))
       go_ret
       exact ⟨by first | rfl | (simp [errW_none, errW_some] <;> rfl) | (simp [*, errW_none, errW_some] <;> rfl), bp_⟩
     · replace c14 := Bool.eq_false_iff.mpr c14
       subst c14
       have H1 : (some false) = some r := by rw [if_neg (show ¬ (false = true) by decide)] at H; exact H
       clear H
       have H := H1
       clear H1
       obtain rfl := Option.some.inj H
       obtain ⟨Ao19, co19, eo19⟩ := Kd.R_slice HO_5.out
       subst eo19
       have hcz20_0 : wr.cell? ⟨gb209, 0, none⟩ = some (.int .i64 a1_0) := (blk_cell BK209.out 0).trans rfl
       have hcz20_1 : wr.cell? ⟨gb209, 1, none⟩ = some (.int .i64 a1_1) := (blk_cell BK209.out 1).trans rfl
       have hfz20_0 := blk_frozen BK209.out 0
       have hfz20_1 := blk_frozen BK209.out 1
       go_wp2_with (first | (go_at_call 57; (with_reducible refine (chequerref01_Format.calls a1_0 a1_1 false _ A13.out).mono ?_); rintro e w21 ⟨rfl, hb⟩; replace HO_5 := Aside0.mk (Kd.R_below (rp_ HO_5.out) hb); replace HB := Aside0.mk (below_step bp_ hb); (try clear hb); (try clear hb2); (try clear hk); (try clear hi)))
       repeat (go_quiet (first | (go_at_call 57; (with_reducible refine (chequerref01_Format.calls a1_0 a1_1 false _ A13.out).mono ?_); rintro e w21 ⟨rfl, hb⟩; have n0_ := Aside0.mk (Kd.R_below (rp_ HO_5.out) hb); have n1_ := Aside0.mk (below_step bp_ hb); clear HO_5; clear HB; have HO_5 := n0_; have HB := n1_; clear n0_ n1_; (try clear hb); (try clear hb2); (try clear hk); (try clear hi))); try go_wp2_with (first | (go_at_call 57; (with_reducible refine (chequerref01_Format.calls a1_0 a1_1 false _ A13.out).mono ?_); rintro e w21 ⟨rfl, hb⟩; have n0_ := Aside0.mk (Kd.R_below (rp_ HO_5.out) hb); have n1_ := Aside0.mk (below_step bp_ hb); clear HO_5; clear HB; have HO_5 := n0_; have HB := n1_; clear n0_ n1_; (try clear hb); (try clear hb2); (try clear hk); (try clear hi))))
       go_ret
       exact ⟨by first | rfl | (simp [errW_none, errW_some] <;> rfl) | (simp [*, errW_none, errW_some] <;> rfl), bp_⟩

end Go.Proofs.Ytdjonaajfhbfhaa.Q
