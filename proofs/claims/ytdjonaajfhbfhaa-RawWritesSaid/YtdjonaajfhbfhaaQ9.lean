-- written by our own program (wip/tools/myprint.py) out of the translation, by the kit's print; Lean checks it
import Derived.Test.YtdjonaajfhbfhaaQ0
import Derived.Test.YtdjonaajfhbfhaaQ4
namespace Go.Proofs.Ytdjonaajfhbfhaa.Q
open Go.RowKit Go.Proofs.YtdjonaajfhbfhaaW.PrintWords Go.Proofs.YtdjonaajfhbfhaaW.PrintLast Go.Proofs.YtdjonaajfhbfhaaW.PrintMore
attribute [local go_sem] max2_int min2_int max_two min_two max_three min_three max_four min_four   -- for this text's walks alone
set_option linter.unusedVariables false
set_option linter.unusedSimpArgs false

abbrev Fl23 : Array Bool := #[false, false, false, false, false, false, false, false, false, false, false, false, false, false]
abbrev Fl24 : Array Bool := #[true, false, false, false, false, false, false, false, false, false, false, false, false, false]
abbrev Fl25 : Array Bool := #[true, true, false, false, false, false, false, false, false, false, false, false, false, false]
abbrev Fl26 : Array Bool := #[true, true, true, false, false, false, false, false, false, false, false, false, false, false]
abbrev Fl27 : Array Bool := #[true, true, true, true, false, false, false, false, false, false, false, false, false, false]
abbrev Fl28 : Array Bool := #[true, true, true, true, false, true, false, false, false, false, false, false, false, false]
abbrev Fl29 : Array Bool := #[true, true, true, true, false, true, true, false, false, false, false, false, false, false]
abbrev Fl30 : Array Bool := #[true, true, true, true, false, true, true, true, false, false, false, false, false, false]
abbrev Fl31 : Array Bool := #[true, true, true, true, false, true, true, true, true, false, false, false, false, false]
abbrev Fl32 : Array Bool := #[true, true, true, true, false, true, true, true, true, true, false, false, false, false]
abbrev Fl33 : Array Bool := #[true, true, true, true, false, true, true, true, true, true, true, false, false, false]
abbrev Fl34 : Array Bool := #[true, true, true, true, true, true, true, true, true, true, true, false, false, false]
abbrev Fl35 : Array Bool := #[true, true, true, true, true, true, true, true, true, true, true, true, false, false]
abbrev Fl36 : Array Bool := #[true, true, true, true, true, true, true, true, true, true, true, true, true, false]
abbrev Fl37 : Array Bool := #[true, true, true, true, true, true, true, true, true, true, true, true, true, true]
/-! ### bits_Pack: function 37 -/
def bits_Pack.l0 : Nat → List Int → List Int → Int → Int → Option (List Int × Int)
 | 0, _, _, _, _ => none
 | k + 1, x4, x15, x16, x17 => if x17 < x16 then (if 0 ≤ x17 then (if x17 < (x15.length : Int) then (if (rd x15 x17) = 0 then (if 0 ≤ (wrap64 (Int.tdiv x17 8)) then (if (wrap64 (Int.tdiv x17 8)) < (x4.length : Int) then (if 0 ≤ (wrap64 (7 - (Int.tmod x17 8))) then (bits_Pack.l0 k (x4.set ((wrap64 (Int.tdiv x17 8)) : Int).toNat (Go.bits .or .u8 (rd x4 (wrap64 (Int.tdiv x17 8))) ((shl .i64 (rd x15 x17) (wrap64 (7 - (Int.tmod x17 8)))) % 256))) x15 x16 (wrap64 (x17 + 1))) else (none)) else (none)) else (none)) else (if (rd x15 x17) = 1 then (if 0 ≤ (wrap64 (Int.tdiv x17 8)) then (if (wrap64 (Int.tdiv x17 8)) < (x4.length : Int) then (if 0 ≤ (wrap64 (7 - (Int.tmod x17 8))) then (bits_Pack.l0 k (x4.set ((wrap64 (Int.tdiv x17 8)) : Int).toNat (Go.bits .or .u8 (rd x4 (wrap64 (Int.tdiv x17 8))) ((shl .i64 (rd x15 x17) (wrap64 (7 - (Int.tmod x17 8)))) % 256))) x15 x16 (wrap64 (x17 + 1))) else (none)) else (none)) else (none)) else (some (([] : List Int), 1)))) else (none)) else (none)) else (some (x4, 0))
def bits_Pack.f (k : Nat) (l0 : List Int) : Option (List Int × Int) := (bits_sized.f (l0.length : Int)).bind fun t173 => (if t173 = true then ((bits_Bytes.f (l0.length : Int)).bind fun t174 => (if 0 ≤ t174 then (if (t174 : Int).toNat ≤ 281474976710656 then (bits_Pack.l0 k (List.replicate (t174 : Int).toNat 0) l0 (l0.length : Int) 0) else (none)) else (none))) else (some (([] : List Int), 1)))
theorem bits_Pack.mono_l : ∀ k, (∀ y0 y1 y2 y3, LeO (bits_Pack.l0 k y0 y1 y2 y3) (bits_Pack.l0 (k + 1) y0 y1 y2 y3))
 | 0 => fun _ _ _ _ r h => by simp [bits_Pack.l0] at h
 | k + 1 => by
  have ih0 := bits_Pack.mono_l k
  · intro y0 y1 y2 y3
    unfold bits_Pack.l0
    repeat' first
    | (with_reducible exact ih0 _ _ _ _)
    | (with_reducible exact LeO.refl _)
    | (with_reducible exact LeO.none _)
    | (with_reducible refine LeO.ite ?_ ?_)
    | (with_reducible refine LeO.bind ?_ (fun _ => ?_))
    | exact ih0 _ _ _ _
    | exact LeO.none _
    | refine LeO.ite ?_ ?_
    | refine LeO.bind ?_ (fun _ => ?_)
theorem bits_Pack.mono : ∀ a0 k, LeO (bits_Pack.f k a0) (bits_Pack.f (k + 1) a0) := by
 intro a0 k
 have ih0 := bits_Pack.mono_l k
 unfold bits_Pack.f
 repeat' first
  | (with_reducible exact ih0 _ _ _ _)
  | (with_reducible exact LeO.refl _)
  | (with_reducible exact LeO.none _)
  | (with_reducible refine LeO.ite ?_ ?_)
  | (with_reducible refine LeO.bind ?_ (fun _ => ?_))
  | exact ih0 _ _ _ _
  | exact LeO.none _
  | refine LeO.ite ?_ ?_
  | refine LeO.bind ?_ (fun _ => ?_)
def bits_Pack.T9 : Bool × List (List Nat × List Nat) := (true, [([], []), ([], []), ([1], [1]), ([0, 2], [0, 2]), ([3], [3]), ([], []), ([], []), ([6], [6]), ([7], [7]), ([5, 8], [5, 8]), ([9], [9]), ([4, 10], [4, 10]), ([0, 2, 0, 1, 2, 3, 4, 5, 6, 7, 8, 9, 10, 11], [0, 2]), ([12, 11, 0, 1, 2, 3, 4, 5, 6, 7, 8, 9, 10, 11], [11, 12])])
def bits_Pack.B9 : List Nat := [0, 0, 2, 7, 15, 0, 0, 64, 192, 480, 992, 2047, 4095, 8191]
theorem bits_Pack.tab9 : rtab .any (opsOf Try.f37 9) = bits_Pack.T9 := by kernel_rfl
theorem bits_Pack.bits9 : waitsOk bits_Pack.T9.2 bits_Pack.B9 = true := by kernel_rfl
set_option maxHeartbeats 8000000 in
set_option maxRecDepth 100000 in
theorem bits_Pack.calls (k : Nat) (A0 : Option Addr) (c0 : Nat) (l0 : List Int) (r1 : List Int) (r2 : Int) (w : World) (hr0 : Kd.C (Kd.int .i64) w A0 l0.length l0) (hc0 : l0.length ≤ c0) (h : bits_Pack.f k l0 = some (r1, r2)) :
 Calls Try.prog 37 #[.slice A0 l0.length c0] w fun e w' => ∃ v0_ : Value, e = .returned (.tuple #[v0_, .int .i64 r2]) ∧ Kd.R (Kd.int .u8) 5 w' w.heap.size (fun _ => True) v0_ r1 ∧ Below w.heap.size w w' := by
 have HR0 := Aside0.mk hr0
 have HC0 := Aside0.mk hc0
 clear hr0 hc0
 have HB := Aside0.mk (Below.refl w.heap.size w)
 have H : ((bits_sized.f (l0.length : Int)).bind fun t173 => (if t173 = true then ((bits_Bytes.f (l0.length : Int)).bind fun t174 => (if 0 ≤ t174 then (if (t174 : Int).toNat ≤ 281474976710656 then (bits_Pack.l0 k (List.replicate (t174 : Int).toNat 0) l0 (l0.length : Int) 0) else (none)) else (none))) else (some (([] : List Int), 1)))) = some (r1, r2) := h
 clear h
 replace H := Option.bind_eq_some_iff.mp H
 obtain ⟨t173, A20, H⟩ := H
 replace H : (if t173 = true then ((bits_Bytes.f (l0.length : Int)).bind fun t174 => (if 0 ≤ t174 then (if (t174 : Int).toNat ≤ 281474976710656 then (bits_Pack.l0 k (List.replicate (t174 : Int).toNat 0) l0 (l0.length : Int) 0) else (none)) else (none))) else (some (([] : List Int), 1))) = some (r1, r2) := H
 have A2 := Aside0.mk A20
 clear A20
 by_cases c3 : t173 = true
 · subst c3
   have H1 : ((bits_Bytes.f (l0.length : Int)).bind fun t174 => (if 0 ≤ t174 then (if (t174 : Int).toNat ≤ 281474976710656 then (bits_Pack.l0 k (List.replicate (t174 : Int).toNat 0) l0 (l0.length : Int) 0) else (none)) else (none))) = some (r1, r2) := by rw [if_pos rfl] at H; exact H
   clear H
   have H := H1
   clear H1
   replace H := Option.bind_eq_some_iff.mp H
   obtain ⟨t174, A40, H⟩ := H
   replace H : (if 0 ≤ t174 then (if (t174 : Int).toNat ≤ 281474976710656 then (bits_Pack.l0 k (List.replicate (t174 : Int).toNat 0) l0 (l0.length : Int) 0) else (none)) else (none)) = some (r1, r2) := H
   have A4 := Aside0.mk A40
   clear A40
   by_cases c5 : 0 ≤ t174
   · rw [if_pos c5] at H
     have c5b0 := eq_true c5
     have c5b1 : decide (0 ≤ t174) = true := decide_eq_true c5
     clear c5
     by_cases c6 : (t174 : Int).toNat ≤ 281474976710656
     · rw [if_pos c6] at H
       have c6b0 := eq_true c6
       have c6b1 : decide ((t174 : Int).toNat ≤ 281474976710656) = true := decide_eq_true c6
       clear c6
       obtain ⟨y175, hy175⟩ : ∃ y_ : List Int, y_ = (List.replicate (t174 : Int).toNat 0) := ⟨_, rfl⟩
       replace H : (bits_Pack.l0 k y175 l0 (l0.length : Int) 0) = some (r1, r2) := by first | (rw [hy175]; with_reducible exact H) | (have H2_ := (Option.bind_some _ _).symm.trans H; rw [hy175]; with_reducible exact H2_) | (have H2_ := (Option.bind_some _ _).symm.trans H; with_reducible exact H2_) | with_reducible exact H | (rw [hy175]; exact H) | exact H
       have Ny175 := Aside0.mk hy175
       clear hy175
       have H' := Aside0.mk H
       clear H
       go_enter Try.func37, Try.ntmps37
       go_wp2_with (first | ((with_reducible refine gate_callee (f := 56) rfl ?_); refine goQ_ (some 9) Try.func56 #[.int .i64 (l0.length : Int)] ?_; (with_reducible refine (bits_sized.calls (l0.length : Int) true _ A2.out).mono ?_); rintro e w' ⟨rfl, ⟨nd, rfl⟩⟩; refine ⟨_, rfl, ?_⟩) | ((with_reducible refine gate_callee (f := 50) rfl ?_); refine goQ_ (some 13) Try.func50 #[.int .i64 (l0.length : Int)] ?_; (with_reducible refine (bits_Bytes.calls (l0.length : Int) t174 _ A4.out).mono ?_); rintro e w' ⟨rfl, ⟨nd, rfl⟩⟩; refine ⟨_, rfl, ?_⟩) | ((with_reducible refine gate_dst (N := 14) rfl ?_); refine Kd.R_make (Kd.int .u8) _ 5 rfl (N := 14) rfl 27 _ _ rfl t174 rfl rfl Try.underlying27 (.int .u8 0) 1 info5 rfl (by decide) (by omega) 0 (ok := fun _ => True) (okp := fun _ => True) rfl (fun _ hk => hk) trivial (of_decide_eq_true (by first | (with_reducible assumption) | assumption)) (Nat.le_trans (Nat.mul_le_mul_right _ (of_decide_eq_true (by first | (with_reducible assumption) | assumption) : t174.toNat ≤ 281474976710656)) (by omega)) (Below.refl _ _) (Nat.le_refl _) ?_; intro v176 w7 ho8 hb hg_ hnew_; clear hg_ hnew_; (first | rw [← Ny175.out] at ho8 | (simp only [Int.reduceToNat] at ho8; rw [← Ny175.out] at ho8)); have HO177 := Aside0.mk (Kd.R_lower ho8 (below_size bp_)); replace HB := Aside0.mk (below_step bp_ hb); clear hb ho8))
       go_loopg [17] k (fun kq v17 w' => ∃ (x4_1 : List Int) (x17_1 : Int), v17 = .int .i64 x17_1 ∧ Aside0 (bits_Pack.l0 kq x4_1 l0 (l0.length : Int) x17_1 = some (r1, r2)) ∧ Aside0 (kq ≤ k) ∧ Aside0 (Kd.R (Kd.int .u8) 5 w' w.heap.size (fun _ => True) v176 x4_1) ∧ Aside0 (Below w.heap.size w w'))
       case atStart => exact ⟨(y175), (0), (by first | rfl | (simp; done) | (simp [*]; done)), H', ⟨Nat.le_refl _⟩, ⟨rp_ HO177.out⟩, ⟨bp_⟩⟩
       case round =>
        clear H'
        try clear p2
        try clear c3
        try clear c5
        try clear c5b0
        try clear c5b1
        try clear c6
        try clear c6b0
        try clear c6b1
        obtain ⟨x4_1, x17_1, rfl, HA, HK1, HO_4, HB⟩ := hrel
        cases gk with
        | zero => exact absurd HA.out (by simp [bits_Pack.l0])
        | succ k1 =>
         have H := HA.out
         clear HA
         simp only [bits_Pack.l0] at H
         by_cases c9 : x17_1 < (l0.length : Int)
         · rw [if_pos c9] at H
           have c9b0 : decide (x17_1 < (l0.length : Int)) = true := decide_eq_true c9
           clear c9
           by_cases c10 : 0 ≤ x17_1
           · rw [if_pos c10] at H
             have c10b0 : decide (0 ≤ x17_1) = true := decide_eq_true c10
             clear c10
             by_cases c11 : x17_1 < (l0.length : Int)
             · rw [if_pos c11] at H
               have c11b0 : decide (x17_1 < (l0.length : Int)) = true := decide_eq_true c11
               clear c11
               have HP12 := Aside0.mk H
               clear H
               have p178 : 0 ≤ (x17_1 : Int) := of_decide_eq_true (by first | (with_reducible assumption) | assumption)
               have q178 : x17_1 < (l0.length : Int) := of_decide_eq_true (by first | (with_reducible assumption) | assumption)
               obtain ⟨ad178, e178, hx178_0⟩ := Kd.at_int HR0.out x17_1 p178 q178
               cases e178
               replace hx178_0 := (HB.out.cell (World.block_lt_of_cell? w _ hx178_0)).trans hx178_0
               replace p178 := eq_true p178
               replace q178 := eq_true q178
               go_upto_region 7 with (fail)
               have H := HP12.out
               clear HP12
               by_cases c13 : (rd l0 x17_1) = 0
               · rw [if_pos c13] at H
                 have c13b0 : ((rd l0 x17_1) == 0) = true := beq_iff_eq.mpr c13
                 have c13b1 : ((rd l0 x17_1) != 0) = false := bne_eq_false_iff_eq.mpr c13
                 clear c13
                 (first | rw [c13b0] | (simp only [i64_w, i32_w]; rw [c13b0]) | skip)
                 obtain ⟨ji14, hji14⟩ : ∃ j_ : Int, (wrap64 (Int.tdiv x17_1 8)) = j_ := ⟨_, rfl⟩
                 replace H : (if 0 ≤ (ji14) then (if (ji14) < (x4_1.length : Int) then (if 0 ≤ (wrap64 (7 - (Int.tmod x17_1 8))) then (bits_Pack.l0 k1 (x4_1.set ((ji14) : Int).toNat (Go.bits .or .u8 (rd x4_1 (ji14)) ((shl .i64 (rd l0 x17_1) (wrap64 (7 - (Int.tmod x17_1 8)))) % 256))) l0 (l0.length : Int) (wrap64 (x17_1 + 1))) else (none)) else (none)) else (none)) = some (r1, r2) := by first | (rw [hji14] at H; exact H) | (simp only [hji14] at H ⊢; exact H)
                 have hji14w : (IntKind.i64.wrap (Int.tdiv x17_1 8)) = ji14 := (i64_w _).trans hji14
                 by_cases c15 : 0 ≤ (ji14)
                 · rw [if_pos c15] at H
                   have c15b0 : decide (0 ≤ (ji14)) = true := decide_eq_true c15
                   clear c15
                   by_cases c16 : (ji14) < (x4_1.length : Int)
                   · rw [if_pos c16] at H
                     have c16b0 : decide ((ji14) < (x4_1.length : Int)) = true := decide_eq_true c16
                     clear c16
                     obtain ⟨ji17, hji17⟩ : ∃ j_ : Int, (wrap64 (7 - (Int.tmod x17_1 8))) = j_ := ⟨_, rfl⟩
                     replace H : (if 0 ≤ (ji17) then (bits_Pack.l0 k1 (x4_1.set ((ji14) : Int).toNat (Go.bits .or .u8 (rd x4_1 (ji14)) ((shl .i64 (rd l0 x17_1) (ji17)) % 256))) l0 (l0.length : Int) (wrap64 (x17_1 + 1))) else (none)) = some (r1, r2) := by first | (rw [hji17] at H; exact H) | (simp only [hji17] at H ⊢; exact H)
                     have hji17w : (IntKind.i64.wrap (7 - (Int.tmod x17_1 8))) = ji17 := (i64_w _).trans hji17
                     by_cases c18 : 0 ≤ (ji17)
                     · rw [if_pos c18] at H
                       have c18b0 := eq_true c18
                       have c18b1 : decide (0 ≤ (ji17)) = true := decide_eq_true c18
                       clear c18
                       obtain ⟨ji19, hji19⟩ : ∃ j_ : Int, (shl .i64 (rd l0 x17_1) (ji17)) = j_ := ⟨_, rfl⟩
                       replace H : (bits_Pack.l0 k1 (x4_1.set ((ji14) : Int).toNat (Go.bits .or .u8 (rd x4_1 (ji14)) ((ji19) % 256))) l0 (l0.length : Int) (wrap64 (x17_1 + 1))) = some (r1, r2) := by first | (rw [hji19] at H; exact H) | (simp only [hji19] at H ⊢; exact H)
                       have hji19_ : (IntKind.i64.wrap ((rd l0 x17_1) * 2 ^ min (ji17).toNat 64)) = ji19 := hji19
                       have hji19z : (ji17) ≤ 64 → (IntKind.i64.wrap ((rd l0 x17_1) * 2 ^ (ji17).toNat)) = ji19 := shl_small hji19
                       have hji19y : (wrap64 ((rd l0 x17_1) * 2 ^ min (ji17).toNat 64)) = ji19 := (i64_w _).symm.trans hji19_
                       have hji19x : (ji17) ≤ 64 → (wrap64 ((rd l0 x17_1) * 2 ^ (ji17).toNat)) = ji19 := fun h_ => (i64_w _).symm.trans (hji19z h_)
                       obtain ⟨y180, hy180⟩ : ∃ y_ : List Int, y_ = (x4_1.set ((ji14) : Int).toNat (Go.bits .or .u8 (rd x4_1 (ji14)) ((ji19) % 256))) := ⟨_, rfl⟩
                       replace H : (bits_Pack.l0 k1 y180 l0 (l0.length : Int) (wrap64 (x17_1 + 1))) = some (r1, r2) := by first | (rw [hy180]; with_reducible exact H) | (have H2_ := (Option.bind_some _ _).symm.trans H; rw [hy180]; with_reducible exact H2_) | (have H2_ := (Option.bind_some _ _).symm.trans H; with_reducible exact H2_) | with_reducible exact H | (rw [hy180]; exact H) | exact H
                       have Ny180 := Aside0.mk hy180
                       clear hy180
                       have H' := Aside0.mk H
                       clear H
                       try go_wp2
                       (try (rw [drewN_self wr]; generalize hq_ : World.drewN wr _ = wr; have n0_ := Aside0.mk (qrp_ hq_ HO_4.out); have n1_ : Aside0 (Below w.heap.size w wr) := ⟨qbp_ hq_⟩; clear HO_4 HB hq_; have HO_4 := n0_; have HB := n1_; clear n0_ n1_))
                       replace HO_4 := Aside0.mk (Kd.R_drew HO_4.out)
                       replace HB := Aside0.mk (below_drew1 HB.out)
                       obtain ⟨Ao22, co22, eo22⟩ := Kd.R_slice HO_4.out
                       (first | subst eo22 | (injection eo22 with f1_ f2_ f3_; have f4_ := f1_.symm; have f5_ := f3_.symm; clear f1_ f2_ f3_; subst f4_; subst f5_))
                       have p179 : 0 ≤ ((ji14) : Int) := of_decide_eq_true (by first | (with_reducible assumption) | assumption)
                       have q179 : (ji14) < (x4_1.length : Int) := of_decide_eq_true (by first | (with_reducible assumption) | assumption)
                       obtain ⟨ad179, e179, hx179_0⟩ := Kd.at_int (Kd.R_reads' HO_4.out).2.2 (ji14) p179 q179
                       cases e179
                       replace p179 := eq_true p179
                       replace q179 := eq_true q179
                       have p20 : 0 ≤ ((ji14) : Int) := of_decide_eq_true (by first | (with_reducible assumption) | assumption)
                       have q20 : ((ji14) : Int) < ((x4_1.length : Int) : Int) := of_decide_eq_true (by first | (with_reducible assumption) | assumption)
                       obtain ⟨go20, co20, eo20, gb20, gl20, cl20, HG20⟩ := Kd.R_form HO_4.out (by omega)
                       (first | cases eo20 | (injection eo20 with ea_ en_ ec_; (first | subst ea_ | (injection ea_ with ea_; subst ea_)); subst ec_; clear en_))
                       have GB20 := Aside0.mk gb20
                       have GG20 := Aside0.mk HG20
                       clear gb20 gl20 HG20
                       (first | simp only [add_plain] at hx179_0 | skip)
                       obtain ⟨hx20_0, hf20_0⟩ := Kd.R_celln 0 HO_4.out ((ji14) : Int) p20 q20
                       replace p20 := eq_true p20
                       replace q20 := eq_true q20
                       have HP23 := Kd.R_putn HO_4.out ((ji14) : Int) (Go.bits .or .u8 (rd x4_1 (ji14)) ((ji19) % 256))
                       rw [← Ny180.out] at HP23
                       have HQ23 := Aside0.mk HP23
                       clear HP23
                       refine start_ (n := 14) (S := fun w' => w'.cell? ⟨go20, ((ji14)).toNat, none⟩ = some (.int .u8 (rd x4_1 (ji14)))) (ds := [13]) Fl23 (by kernel_rfl) rfl rfl (hx179_0) (fun hHeld => ?_); refine with_tabW bits_Pack.tab9 bits_Pack.bits9 (fun HT_ HW_ => ?_)
                       generalize wr.drew = w21 at HO_4 HB GG20 HQ23 hf20_0 hx179_0 hx20_0 hHeld ⊢
                       refine pur_ (i := 0) (N := some 28) Fl24 (any_of HT_.out (by kernel_rfl)) ?_
                       refine pur_ (i := 1) (N := some 29) Fl25 (any_of HT_.out (by kernel_rfl)) ?_
                       refine pur_ (i := 2) (N := some 30) Fl26 (any_of HT_.out (by kernel_rfl)) ?_
                       refine pur_ (i := 3) (N := some 31) Fl27 (any_of HT_.out (by kernel_rfl)) ?_
                       refine pur_ (i := 5) (N := some 33) Fl28 (any_of HT_.out (by kernel_rfl)) ?_
                       refine pur_ (i := 6) (N := some 34) Fl29 (any_of HT_.out (by kernel_rfl)) ?_
                       refine pur_ (i := 7) (N := some 35) Fl30 (any_of HT_.out (by kernel_rfl)) ?_
                       refine pur_ (i := 8) (N := some 36) Fl31 (any_of HT_.out (by kernel_rfl)) ?_
                       refine pur_ (i := 9) (N := some 37) Fl32 (any_of HT_.out (by kernel_rfl)) ?_
                       refine pur_ (i := 10) (N := some 38) Fl33 (any_of HT_.out (by kernel_rfl)) ?_
                       refine take_ (i := 4) (N := some 32) (v := ?_) (a' := ?_) Fl34 rfl rfl (take_ofW HT_.out HW_.out (by kernel_rfl)) (fun _ _ _ h => h) (Or.inl ⟨by rfl, ?_⟩) hHeld ?_ ?_
                       rotate_left
                       · intro w' s0
                         go_simp
                         with_reducible rfl
                       rotate_left
                       · simp only [Act.put, List.setIfInBounds_toArray, List.set_cons_zero, List.set_cons_succ, i64_w, i32_w]
                         rfl
                       refine pur_ (i := 11) (N := some 39) Fl35 (any_of HT_.out (by kernel_rfl)) ?_
                       refine pur_ (i := 12) (N := some 40) Fl36 (any_of HT_.out (by kernel_rfl)) ?_
                       refine last_ (i := 13) (N := none) Fl37 rfl rfl (one_of HT_.out (by kernel_rfl)) (by decide) (fun K hK => ?_)
                       refine skip_ (w1 := ?_) (by rfl) rfl ?_ ?_
                       rotate_left
                       · go_simp
                         rfl
                       refine hK.out _ _ ?_
                       clear hK K
                       refine done_ (done_of HT_.out (by kernel_rfl)) ?_
                       try go_wp2
                       go_roundg k1
                       case measure => have := HK1.out; omega
                       case rel => exact ⟨(y180), (wrap64 (x17_1 + 1)), (by first | rfl | (simp; done) | (simp [*]; done)), H', ⟨by have := HK1.out; omega⟩, ⟨rp_ HQ23.out⟩, ⟨bp_⟩⟩
                     · rw [if_neg c18] at H
                       exact absurd H (by simp)
                   · rw [if_neg c16] at H
                     exact absurd H (by simp)
                 · rw [if_neg c15] at H
                   exact absurd H (by simp)
               · rw [if_neg c13] at H
                 have c13b0 : ((rd l0 x17_1) == 0) = false := beq_eq_false_iff_ne.mpr c13
                 have c13b1 : ((rd l0 x17_1) != 0) = true := bne_iff_ne.mpr c13
                 (first | rw [c13b0] | (simp only [i64_w, i32_w]; rw [c13b0]) | skip)
                 by_cases c24 : (rd l0 x17_1) = 1
                 · rw [if_pos c24] at H
                   have c24b0 : ((rd l0 x17_1) == 1) = true := beq_iff_eq.mpr c24
                   have c24b1 : ((rd l0 x17_1) != 1) = false := bne_eq_false_iff_eq.mpr c24
                   clear c24
                   obtain ⟨ji25, hji25⟩ : ∃ j_ : Int, (wrap64 (Int.tdiv x17_1 8)) = j_ := ⟨_, rfl⟩
                   replace H : (if 0 ≤ (ji25) then (if (ji25) < (x4_1.length : Int) then (if 0 ≤ (wrap64 (7 - (Int.tmod x17_1 8))) then (bits_Pack.l0 k1 (x4_1.set ((ji25) : Int).toNat (Go.bits .or .u8 (rd x4_1 (ji25)) ((shl .i64 (rd l0 x17_1) (wrap64 (7 - (Int.tmod x17_1 8)))) % 256))) l0 (l0.length : Int) (wrap64 (x17_1 + 1))) else (none)) else (none)) else (none)) = some (r1, r2) := by first | (rw [hji25] at H; exact H) | (simp only [hji25] at H ⊢; exact H)
                   have hji25w : (IntKind.i64.wrap (Int.tdiv x17_1 8)) = ji25 := (i64_w _).trans hji25
                   by_cases c26 : 0 ≤ (ji25)
                   · rw [if_pos c26] at H
                     have c26b0 : decide (0 ≤ (ji25)) = true := decide_eq_true c26
                     clear c26
                     by_cases c27 : (ji25) < (x4_1.length : Int)
                     · rw [if_pos c27] at H
                       have c27b0 : decide ((ji25) < (x4_1.length : Int)) = true := decide_eq_true c27
                       clear c27
                       obtain ⟨ji28, hji28⟩ : ∃ j_ : Int, (wrap64 (7 - (Int.tmod x17_1 8))) = j_ := ⟨_, rfl⟩
                       replace H : (if 0 ≤ (ji28) then (bits_Pack.l0 k1 (x4_1.set ((ji25) : Int).toNat (Go.bits .or .u8 (rd x4_1 (ji25)) ((shl .i64 (rd l0 x17_1) (ji28)) % 256))) l0 (l0.length : Int) (wrap64 (x17_1 + 1))) else (none)) = some (r1, r2) := by first | (rw [hji28] at H; exact H) | (simp only [hji28] at H ⊢; exact H)
                       have hji28w : (IntKind.i64.wrap (7 - (Int.tmod x17_1 8))) = ji28 := (i64_w _).trans hji28
                       by_cases c29 : 0 ≤ (ji28)
                       · rw [if_pos c29] at H
                         have c29b0 := eq_true c29
                         have c29b1 : decide (0 ≤ (ji28)) = true := decide_eq_true c29
                         clear c29
                         obtain ⟨ji30, hji30⟩ : ∃ j_ : Int, (shl .i64 (rd l0 x17_1) (ji28)) = j_ := ⟨_, rfl⟩
                         replace H : (bits_Pack.l0 k1 (x4_1.set ((ji25) : Int).toNat (Go.bits .or .u8 (rd x4_1 (ji25)) ((ji30) % 256))) l0 (l0.length : Int) (wrap64 (x17_1 + 1))) = some (r1, r2) := by first | (rw [hji30] at H; exact H) | (simp only [hji30] at H ⊢; exact H)
                         have hji30_ : (IntKind.i64.wrap ((rd l0 x17_1) * 2 ^ min (ji28).toNat 64)) = ji30 := hji30
                         have hji30z : (ji28) ≤ 64 → (IntKind.i64.wrap ((rd l0 x17_1) * 2 ^ (ji28).toNat)) = ji30 := shl_small hji30
                         have hji30y : (wrap64 ((rd l0 x17_1) * 2 ^ min (ji28).toNat 64)) = ji30 := (i64_w _).symm.trans hji30_
                         have hji30x : (ji28) ≤ 64 → (wrap64 ((rd l0 x17_1) * 2 ^ (ji28).toNat)) = ji30 := fun h_ => (i64_w _).symm.trans (hji30z h_)
                         obtain ⟨y182, hy182⟩ : ∃ y_ : List Int, y_ = (x4_1.set ((ji25) : Int).toNat (Go.bits .or .u8 (rd x4_1 (ji25)) ((ji30) % 256))) := ⟨_, rfl⟩
                         replace H : (bits_Pack.l0 k1 y182 l0 (l0.length : Int) (wrap64 (x17_1 + 1))) = some (r1, r2) := by first | (rw [hy182]; with_reducible exact H) | (have H2_ := (Option.bind_some _ _).symm.trans H; rw [hy182]; with_reducible exact H2_) | (have H2_ := (Option.bind_some _ _).symm.trans H; with_reducible exact H2_) | with_reducible exact H | (rw [hy182]; exact H) | exact H
                         have Ny182 := Aside0.mk hy182
                         clear hy182
                         have H' := Aside0.mk H
                         clear H
                         try go_wp2
                         (try (rw [drewN_self wr]; generalize hq_ : World.drewN wr _ = wr; have n0_ := Aside0.mk (qrp_ hq_ HO_4.out); have n1_ : Aside0 (Below w.heap.size w wr) := ⟨qbp_ hq_⟩; clear HO_4 HB hq_; have HO_4 := n0_; have HB := n1_; clear n0_ n1_))
                         replace HO_4 := Aside0.mk (Kd.R_drew HO_4.out)
                         replace HB := Aside0.mk (below_drew1 HB.out)
                         obtain ⟨Ao33, co33, eo33⟩ := Kd.R_slice HO_4.out
                         (first | subst eo33 | (injection eo33 with f1_ f2_ f3_; have f4_ := f1_.symm; have f5_ := f3_.symm; clear f1_ f2_ f3_; subst f4_; subst f5_))
                         have p181 : 0 ≤ ((ji25) : Int) := of_decide_eq_true (by first | (with_reducible assumption) | assumption)
                         have q181 : (ji25) < (x4_1.length : Int) := of_decide_eq_true (by first | (with_reducible assumption) | assumption)
                         obtain ⟨ad181, e181, hx181_0⟩ := Kd.at_int (Kd.R_reads' HO_4.out).2.2 (ji25) p181 q181
                         cases e181
                         replace p181 := eq_true p181
                         replace q181 := eq_true q181
                         have p31 : 0 ≤ ((ji25) : Int) := of_decide_eq_true (by first | (with_reducible assumption) | assumption)
                         have q31 : ((ji25) : Int) < ((x4_1.length : Int) : Int) := of_decide_eq_true (by first | (with_reducible assumption) | assumption)
                         obtain ⟨go31, co31, eo31, gb31, gl31, cl31, HG31⟩ := Kd.R_form HO_4.out (by omega)
                         (first | cases eo31 | (injection eo31 with ea_ en_ ec_; (first | subst ea_ | (injection ea_ with ea_; subst ea_)); subst ec_; clear en_))
                         have GB31 := Aside0.mk gb31
                         have GG31 := Aside0.mk HG31
                         clear gb31 gl31 HG31
                         (first | simp only [add_plain] at hx181_0 | skip)
                         obtain ⟨hx31_0, hf31_0⟩ := Kd.R_celln 0 HO_4.out ((ji25) : Int) p31 q31
                         replace p31 := eq_true p31
                         replace q31 := eq_true q31
                         have HP34 := Kd.R_putn HO_4.out ((ji25) : Int) (Go.bits .or .u8 (rd x4_1 (ji25)) ((ji30) % 256))
                         rw [← Ny182.out] at HP34
                         have HQ34 := Aside0.mk HP34
                         clear HP34
                         refine start_ (n := 14) (S := fun w' => w'.cell? ⟨go31, ((ji25)).toNat, none⟩ = some (.int .u8 (rd x4_1 (ji25)))) (ds := [13]) Fl23 (by kernel_rfl) rfl rfl (hx181_0) (fun hHeld => ?_); refine with_tabW bits_Pack.tab9 bits_Pack.bits9 (fun HT_ HW_ => ?_)
                         generalize wr.drew = w32 at HO_4 HB GG31 HQ34 hf31_0 hx181_0 hx31_0 hHeld ⊢
                         refine pur_ (i := 0) (N := some 28) Fl24 (any_of HT_.out (by kernel_rfl)) ?_
                         refine pur_ (i := 1) (N := some 29) Fl25 (any_of HT_.out (by kernel_rfl)) ?_
                         refine pur_ (i := 2) (N := some 30) Fl26 (any_of HT_.out (by kernel_rfl)) ?_
                         refine pur_ (i := 3) (N := some 31) Fl27 (any_of HT_.out (by kernel_rfl)) ?_
                         refine pur_ (i := 5) (N := some 33) Fl28 (any_of HT_.out (by kernel_rfl)) ?_
                         refine pur_ (i := 6) (N := some 34) Fl29 (any_of HT_.out (by kernel_rfl)) ?_
                         refine pur_ (i := 7) (N := some 35) Fl30 (any_of HT_.out (by kernel_rfl)) ?_
                         refine pur_ (i := 8) (N := some 36) Fl31 (any_of HT_.out (by kernel_rfl)) ?_
                         refine pur_ (i := 9) (N := some 37) Fl32 (any_of HT_.out (by kernel_rfl)) ?_
                         refine pur_ (i := 10) (N := some 38) Fl33 (any_of HT_.out (by kernel_rfl)) ?_
                         refine take_ (i := 4) (N := some 32) (v := ?_) (a' := ?_) Fl34 rfl rfl (take_ofW HT_.out HW_.out (by kernel_rfl)) (fun _ _ _ h => h) (Or.inl ⟨by rfl, ?_⟩) hHeld ?_ ?_
                         rotate_left
                         · intro w' s0
                           go_simp
                           with_reducible rfl
                         rotate_left
                         · simp only [Act.put, List.setIfInBounds_toArray, List.set_cons_zero, List.set_cons_succ, i64_w, i32_w]
                           rfl
                         refine pur_ (i := 11) (N := some 39) Fl35 (any_of HT_.out (by kernel_rfl)) ?_
                         refine pur_ (i := 12) (N := some 40) Fl36 (any_of HT_.out (by kernel_rfl)) ?_
                         refine last_ (i := 13) (N := none) Fl37 rfl rfl (one_of HT_.out (by kernel_rfl)) (by decide) (fun K hK => ?_)
                         refine skip_ (w1 := ?_) (by rfl) rfl ?_ ?_
                         rotate_left
                         · go_simp
                           rfl
                         refine hK.out _ _ ?_
                         clear hK K
                         refine done_ (done_of HT_.out (by kernel_rfl)) ?_
                         try go_wp2
                         go_roundg k1
                         case measure => have := HK1.out; omega
                         case rel => exact ⟨(y182), (wrap64 (x17_1 + 1)), (by first | rfl | (simp; done) | (simp [*]; done)), H', ⟨by have := HK1.out; omega⟩, ⟨rp_ HQ34.out⟩, ⟨bp_⟩⟩
                       · rw [if_neg c29] at H
                         exact absurd H (by simp)
                     · rw [if_neg c27] at H
                       exact absurd H (by simp)
                   · rw [if_neg c26] at H
                     exact absurd H (by simp)
                 · rw [if_neg c24] at H
                   have c24b0 : ((rd l0 x17_1) == 1) = false := beq_eq_false_iff_ne.mpr c24
                   have c24b1 : ((rd l0 x17_1) != 1) = true := bne_iff_ne.mpr c24
                   simp only [Option.some.injEq, Prod.mk.injEq] at H
                   obtain ⟨rfl, rfl⟩ := H
                   go_wp2
                   go_ret2
                   exact ⟨_, by first | rfl | (simp [errW_none, errW_some] <;> rfl) | (simp [*, errW_none, errW_some] <;> rfl), by first | exact Kd.R_nil _ _ _ _ _ | exact Kd.N_nil _ _ _ _ _ | exact Kd.V_nil _ _ _ _ _ | exact Kd.Q_nil _ _ _ _ _ | exact Kd.S_nil _ _ _ _ _, bp_⟩
             · rw [if_neg c11] at H
               exact absurd H (by simp)
           · rw [if_neg c10] at H
             exact absurd H (by simp)
         · rw [if_neg c9] at H
           have c9b0 : decide (x17_1 < (l0.length : Int)) = false := decide_eq_false c9
           clear c9
           simp only [Option.some.injEq, Prod.mk.injEq] at H
           obtain ⟨rfl, rfl⟩ := H
           go_wp2
           go_ret2
           exact ⟨_, by first | rfl | (simp [errW_none, errW_some] <;> rfl) | (simp [*, errW_none, errW_some] <;> rfl), by (with_reducible repeat (first | apply Kd.R_alloc | apply Kd.R_drewN | apply Kd.R_drew)); exact HO_4.out, bp_⟩
     · rw [if_neg c6] at H
       exact absurd H (by simp)
   · rw [if_neg c5] at H
     exact absurd H (by simp)
 · replace c3 := Bool.eq_false_iff.mpr c3
   subst c3
   have H1 : (some (([] : List Int), 1)) = some (r1, r2) := by rw [if_neg (show ¬ (false = true) by decide)] at H; exact H
   clear H
   have H := H1
   clear H1
   simp only [Option.some.injEq, Prod.mk.injEq] at H
   obtain ⟨rfl, rfl⟩ := H
   go_enter Try.func37, Try.ntmps37
   go_wp2_with (first | ((with_reducible refine gate_callee (f := 56) rfl ?_); refine goQ_ (some 9) Try.func56 #[.int .i64 (l0.length : Int)] ?_; (with_reducible refine (bits_sized.calls (l0.length : Int) false _ A2.out).mono ?_); rintro e w' ⟨rfl, ⟨nd, rfl⟩⟩; refine ⟨_, rfl, ?_⟩))
   go_ret2
   exact ⟨_, by first | rfl | (simp [errW_none, errW_some] <;> rfl) | (simp [*, errW_none, errW_some] <;> rfl), by first | exact Kd.R_nil _ _ _ _ _ | exact Kd.N_nil _ _ _ _ _ | exact Kd.V_nil _ _ _ _ _ | exact Kd.Q_nil _ _ _ _ _ | exact Kd.S_nil _ _ _ _ _, bp_⟩


end Go.Proofs.Ytdjonaajfhbfhaa.Q
