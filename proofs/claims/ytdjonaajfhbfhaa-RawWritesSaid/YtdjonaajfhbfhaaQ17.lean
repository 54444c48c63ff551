-- written by our own program (wip/tools/myprint.py) out of the translation, by the kit's print; Lean checks it
import Derived.Test.YtdjonaajfhbfhaaQ0
namespace Go.Proofs.Ytdjonaajfhbfhaa.Q
open Go.RowKit Go.Proofs.YtdjonaajfhbfhaaW.PrintWords Go.Proofs.YtdjonaajfhbfhaaW.PrintLast Go.Proofs.YtdjonaajfhbfhaaW.PrintMore
attribute [local go_sem] max2_int min2_int max_two min_two max_three min_three max_four min_four   -- for this text's walks alone
set_option linter.unusedVariables false
set_option linter.unusedSimpArgs false


/-! ### pix_Pack: function 62 -/
mutual
def pix_Pack.j0 : Nat → List Int → Bool → Option (Int × Int)
 | 0, _, _ => none
 | k + 1, x0, x14 => if x14 = true then (some (0, 1)) else (pix_Pack.l0 k x0 0 x0 (x0.length : Int) 0)
def pix_Pack.l0 : Nat → List Int → Int → List Int → Int → Int → Option (Int × Int)
 | 0, _, _, _, _, _ => none
 | k + 1, x0, x4, x15, x16, x17 => if x17 < x16 then (if 0 ≤ x17 then (if x17 < (x15.length : Int) then (if (rd x15 x17) < 0 then (some (0, 4)) else (if (rd x15 x17) > 65535 then (some (0, 4)) else (pix_Pack.l0 k x0 (Go.bits .or .u64 (IntKind.u64.wrap (x4 * 65536)) (IntKind.u64.wrap (rd x15 x17))) x15 x16 (wrap64 (x17 + 1))))) else (none)) else (none)) else (some (Go.bits .or .u64 x4 (IntKind.u64.wrap ((IntKind.u64.wrap ((x0.length : Int))) * 281474976710656)), 0))
end
def pix_Pack.f (k : Nat) (l0 : List Int) : Option (Int × Int) := if (l0.length : Int) = 1 then (pix_Pack.j0 k l0 false) else (pix_Pack.j0 k l0 ((l0.length : Int) != 3))
theorem pix_Pack.mono_l : ∀ k, (∀ y0 y1, LeO (pix_Pack.j0 k y0 y1) (pix_Pack.j0 (k + 1) y0 y1)) ∧ (∀ y0 y1 y2 y3 y4, LeO (pix_Pack.l0 k y0 y1 y2 y3 y4) (pix_Pack.l0 (k + 1) y0 y1 y2 y3 y4))
 | 0 => ⟨fun _ _ r h => by simp [pix_Pack.j0] at h, fun _ _ _ _ _ r h => by simp [pix_Pack.l0] at h⟩
 | k + 1 => by
  obtain ⟨ih0, ih1⟩ := pix_Pack.mono_l k
  refine ⟨?_, ?_⟩
  · intro y0 y1
    unfold pix_Pack.j0
    repeat' first
    | (with_reducible exact ih0 _ _)
    | (with_reducible exact ih1 _ _ _ _ _)
    | (with_reducible exact LeO.refl _)
    | (with_reducible exact LeO.none _)
    | (with_reducible refine LeO.ite ?_ ?_)
    | (with_reducible refine LeO.bind ?_ (fun _ => ?_))
    | exact ih0 _ _
    | exact ih1 _ _ _ _ _
    | exact LeO.none _
    | refine LeO.ite ?_ ?_
    | refine LeO.bind ?_ (fun _ => ?_)
  · intro y0 y1 y2 y3 y4
    unfold pix_Pack.l0
    repeat' first
    | (with_reducible exact ih0 _ _)
    | (with_reducible exact ih1 _ _ _ _ _)
    | (with_reducible exact LeO.refl _)
    | (with_reducible exact LeO.none _)
    | (with_reducible refine LeO.ite ?_ ?_)
    | (with_reducible refine LeO.bind ?_ (fun _ => ?_))
    | exact ih0 _ _
    | exact ih1 _ _ _ _ _
    | exact LeO.none _
    | refine LeO.ite ?_ ?_
    | refine LeO.bind ?_ (fun _ => ?_)
theorem pix_Pack.mono : ∀ a0 k, LeO (pix_Pack.f k a0) (pix_Pack.f (k + 1) a0) := by
 intro a0 k
 obtain ⟨ih0, ih1⟩ := pix_Pack.mono_l k
 unfold pix_Pack.f
 repeat' first
  | (with_reducible exact ih0 _ _)
  | (with_reducible exact ih1 _ _ _ _ _)
  | (with_reducible exact LeO.refl _)
  | (with_reducible exact LeO.none _)
  | (with_reducible refine LeO.ite ?_ ?_)
  | (with_reducible refine LeO.bind ?_ (fun _ => ?_))
  | exact ih0 _ _
  | exact ih1 _ _ _ _ _
  | exact LeO.none _
  | refine LeO.ite ?_ ?_
  | refine LeO.bind ?_ (fun _ => ?_)
set_option maxHeartbeats 8000000 in
set_option maxRecDepth 100000 in
theorem pix_Pack.calls (k : Nat) (A0 : Option Addr) (c0 : Nat) (l0 : List Int) (r1 : Int) (r2 : Int) (w : World) (hr0 : Kd.C (Kd.int .i64) w A0 l0.length l0) (hc0 : l0.length ≤ c0) (h : pix_Pack.f k l0 = some (r1, r2)) :
 Calls Try.prog 62 #[.slice A0 l0.length c0] w fun e w' => e = .returned (.tuple #[.int .u64 r1, .int .i64 r2]) ∧ Drawn0 w w' := by
 have HR0 := Aside0.mk hr0
 have HC0 := Aside0.mk hc0
 clear hr0 hc0
 have H : (if (l0.length : Int) = 1 then (pix_Pack.j0 k l0 false) else (pix_Pack.j0 k l0 ((l0.length : Int) != 3))) = some (r1, r2) := h
 clear h
 have HC2 := Aside0.mk H
 clear H
 go_enter Try.func62, Try.ntmps62
 go_upto_region 1 with (fail)
 go_cut [14] (fun v14 wc => ∃ (kq : Nat) (x14_1 : Bool), v14 = .bool x14_1 ∧ Aside0 (pix_Pack.j0 kq l0 x14_1 = some (r1, r2)) ∧ Aside0 (kq ≤ k) ∧ Drawn0 w wc)
 case first =>
  have H := HC2.out
  clear HC2
  by_cases c3 : (l0.length : Int) = 1
  · rw [if_pos c3] at H
    have c3b0 : ((l0.length : Int) == 1) = true := beq_iff_eq.mpr c3
    have c3b1 : ((l0.length : Int) != 1) = false := bne_eq_false_iff_eq.mpr c3
    clear c3
    (first | rw [c3b0] | (simp only [i64_w, i32_w]; rw [c3b0]) | skip)
    have H' := Aside0.mk H
    clear H
    go_wp2
    go_meet
    case rel => exact ⟨_, (false), (by first | rfl | (simp; done) | (simp [*]; done)), H', ⟨by first | omega | exact Nat.le_refl _⟩, by repeat (first | exact Drawn0.refl _ | apply Drawn0.step)⟩
  · rw [if_neg c3] at H
    have c3b0 : ((l0.length : Int) == 1) = false := beq_eq_false_iff_ne.mpr c3
    have c3b1 : ((l0.length : Int) != 1) = true := bne_iff_ne.mpr c3
    (first | rw [c3b0] | (simp only [i64_w, i32_w]; rw [c3b0]) | skip)
    have H' := Aside0.mk H
    clear H
    go_wp2
    go_meet
    case rel => exact ⟨_, (((l0.length : Int) != 3)), (by first | rfl | (simp; done) | (simp [*]; done)), H', ⟨by first | omega | exact Nat.le_refl _⟩, by repeat (first | exact Drawn0.refl _ | apply Drawn0.step)⟩
 case rest =>
  clear HC2
  try clear p2
  try clear c3
  try clear c3b0
  try clear c3b1
  obtain ⟨kq, x14_1, rfl, HA, HJ1, ⟨mc1, rfl⟩⟩ := hcut
  cases kq with
  | zero => exact absurd HA.out (by simp [pix_Pack.j0])
  | succ kj1 =>
   have H := HA.out
   clear HA
   simp only [pix_Pack.j0] at H
   by_cases c4 : x14_1 = true
   · subst c4
     have H1 : (some (0, 1)) = some (r1, r2) := by rw [if_pos rfl] at H; exact H
     clear H
     have H := H1
     clear H1
     simp only [Option.some.injEq, Prod.mk.injEq] at H
     obtain ⟨rfl, rfl⟩ := H
     go_wp2
     go_ret2
     exact ⟨by first | rfl | (simp; done) | (simp [*]; done), by repeat (first | exact Drawn0.refl _ | apply Drawn0.step)⟩
   · replace c4 := Bool.eq_false_iff.mpr c4
     subst c4
     have H1 : (pix_Pack.l0 kj1 l0 0 l0 (l0.length : Int) 0) = some (r1, r2) := by rw [if_neg (show ¬ (false = true) by decide)] at H; exact H
     clear H
     have H := H1
     clear H1
     have H' := Aside0.mk H
     clear H
     go_wp2
     go_loopg [4, 17] kj1 (fun kq v4 v17 w' => ∃ (x4_2 : Int) (x17_2 : Int), v4 = .int .u64 x4_2 ∧ v17 = .int .i64 x17_2 ∧ Aside0 (pix_Pack.l0 kq l0 x4_2 l0 (l0.length : Int) x17_2 = some (r1, r2)) ∧ Aside0 (kq ≤ kj1) ∧ Drawn0 w w')
     case atStart => exact ⟨(0), (0), (by first | rfl | (simp; done) | (simp [*]; done)), (by first | rfl | (simp; done) | (simp [*]; done)), H', ⟨Nat.le_refl _⟩, by repeat (first | exact Drawn0.refl _ | apply Drawn0.step)⟩
     case round =>
      clear H'
      try clear c1
      try clear p2
      try clear c3
      try clear c3b0
      try clear c3b1
      try clear c4
      try clear p2
      obtain ⟨x4_2, x17_2, rfl, rfl, HA, HK2, ⟨m2, rfl⟩⟩ := hrel
      cases gk with
      | zero => exact absurd HA.out (by simp [pix_Pack.l0])
      | succ k2 =>
       have H := HA.out
       clear HA
       simp only [pix_Pack.l0] at H
       by_cases c5 : x17_2 < (l0.length : Int)
       · rw [if_pos c5] at H
         have c5b0 : decide (x17_2 < (l0.length : Int)) = true := decide_eq_true c5
         clear c5
         by_cases c6 : 0 ≤ x17_2
         · rw [if_pos c6] at H
           have c6b0 : decide (0 ≤ x17_2) = true := decide_eq_true c6
           clear c6
           by_cases c7 : x17_2 < (l0.length : Int)
           · rw [if_pos c7] at H
             have c7b0 : decide (x17_2 < (l0.length : Int)) = true := decide_eq_true c7
             clear c7
             by_cases c8 : (rd l0 x17_2) < 0
             · rw [if_pos c8] at H
               have c8b0 : decide ((rd l0 x17_2) < 0) = true := decide_eq_true c8
               clear c8
               simp only [Option.some.injEq, Prod.mk.injEq] at H
               obtain ⟨rfl, rfl⟩ := H
               have p243 : 0 ≤ (x17_2 : Int) := of_decide_eq_true (by first | (with_reducible assumption) | assumption)
               have q243 : x17_2 < (l0.length : Int) := of_decide_eq_true (by first | (with_reducible assumption) | assumption)
               obtain ⟨ad243, e243, hx243_0⟩ := Kd.at_int HR0.out x17_2 p243 q243
               cases e243
               replace p243 := eq_true p243
               replace q243 := eq_true q243
               go_wp2
               go_ret2
               exact ⟨by first | rfl | (simp; done) | (simp [*]; done), by repeat (first | exact Drawn0.refl _ | apply Drawn0.step)⟩
             · rw [if_neg c8] at H
               have c8b0 : decide ((rd l0 x17_2) < 0) = false := decide_eq_false c8
               clear c8
               by_cases c9 : (rd l0 x17_2) > 65535
               · rw [if_pos c9] at H
                 have c9b0 : decide (65535 < (rd l0 x17_2)) = true := decide_eq_true c9
                 clear c9
                 simp only [Option.some.injEq, Prod.mk.injEq] at H
                 obtain ⟨rfl, rfl⟩ := H
                 have p243 : 0 ≤ (x17_2 : Int) := of_decide_eq_true (by first | (with_reducible assumption) | assumption)
                 have q243 : x17_2 < (l0.length : Int) := of_decide_eq_true (by first | (with_reducible assumption) | assumption)
                 obtain ⟨ad243, e243, hx243_0⟩ := Kd.at_int HR0.out x17_2 p243 q243
                 cases e243
                 replace p243 := eq_true p243
                 replace q243 := eq_true q243
                 go_wp2
                 go_ret2
                 exact ⟨by first | rfl | (simp; done) | (simp [*]; done), by repeat (first | exact Drawn0.refl _ | apply Drawn0.step)⟩
               · rw [if_neg c9] at H
                 have c9b0 : decide (65535 < (rd l0 x17_2)) = false := decide_eq_false c9
                 clear c9
                 have H' := Aside0.mk H
                 clear H
                 have p243 : 0 ≤ (x17_2 : Int) := of_decide_eq_true (by first | (with_reducible assumption) | assumption)
                 have q243 : x17_2 < (l0.length : Int) := of_decide_eq_true (by first | (with_reducible assumption) | assumption)
                 obtain ⟨ad243, e243, hx243_0⟩ := Kd.at_int HR0.out x17_2 p243 q243
                 cases e243
                 replace p243 := eq_true p243
                 replace q243 := eq_true q243
                 go_wp2
                 go_roundg k2
                 case measure => have := HJ1.out; have := HK2.out; omega
                 case rel => exact ⟨(Go.bits .or .u64 (IntKind.u64.wrap (x4_2 * 65536)) (IntKind.u64.wrap (rd l0 x17_2))), (wrap64 (x17_2 + 1)), (by first | rfl | (simp; done) | (simp [*]; done)), (by first | rfl | (simp; done) | (simp [*]; done)), H', ⟨by have := HJ1.out; have := HK2.out; omega⟩, by repeat (first | exact Drawn0.refl _ | apply Drawn0.step)⟩
           · rw [if_neg c7] at H
             exact absurd H (by simp)
         · rw [if_neg c6] at H
           exact absurd H (by simp)
       · rw [if_neg c5] at H
         have c5b0 : decide (x17_2 < (l0.length : Int)) = false := decide_eq_false c5
         clear c5
         simp only [Option.some.injEq, Prod.mk.injEq] at H
         obtain ⟨rfl, rfl⟩ := H
         go_wp2
         go_ret2
         exact ⟨by first | rfl | (simp; done) | (simp [*]; done), by repeat (first | exact Drawn0.refl _ | apply Drawn0.step)⟩

end Go.Proofs.Ytdjonaajfhbfhaa.Q
