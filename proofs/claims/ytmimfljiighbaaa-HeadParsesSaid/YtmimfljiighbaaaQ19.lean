-- written by our own program (wip/tools/myprint.py) out of the translation, by the kit's print; Lean checks it
import Derived.Test.YtmimfljiighbaaaQ0
import Derived.Test.YtmimfljiighbaaaQ2
import Derived.Test.YtmimfljiighbaaaQ8
import Derived.Test.YtmimfljiighbaaaIhead_New
import Derived.Test.YtmimfljiighbaaaIhead_Reader_Put
import Derived.Test.YtmimfljiighbaaaIhead_Reader_Head
namespace Go.Proofs.Ytmimfljiighbaaa.Q
open Go.RowKit Go.Proofs.YtmimfljiighbaaaW.PrintWords Go.Proofs.YtmimfljiighbaaaW.PrintLast Go.Proofs.YtmimfljiighbaaaW.PrintMore
attribute [local go_sem] max2_int min2_int max_two min_two max_three min_three max_four min_four   -- for this text's walks alone
set_option linter.unusedVariables false
set_option linter.unusedSimpArgs false

attribute [local go_sem high] eqA36

/-! ### head_Parse: function 15 -/
def head_Parse.l0 : Nat → ByteArray → Int → Int → Int → Int → Int → Int → Int → Int → Int → Int → Int → Bool → Int → Int → Int → Bool → Int → Int → Int → Int → Option (Int × Int × Int × Int × Int × Int)
 | 0, _, _, _, _, _, _, _, _, _, _, _, _, _, _, _, _, _, _, _, _, _ => none
 | k + 1, x0, x14, x15, x164000, x164001, x164002, x164003, x164004, x164005, x164006, x164007, x164008, x164009, x164010, x164011, x164012, x164013, x164014, x164015, x164016, x164017 => if x15 < x14 then (if 0 ≤ x15 then (if x15 < (x0.size : Int) then ((head_Reader_Put.f x164000 x164001 x164002 x164003 x164004 x164005 x164006 x164007 x164008 x164009 x164010 x164011 x164012 x164013 x164014 x164015 x164016 x164017 (bt x0 x15)).bind fun bt164 => (if bt164.1 = 0 then (head_Parse.l0 k x0 x14 (wrap64 (x15 + 1)) bt164.2.1 bt164.2.2.1 bt164.2.2.2.1 bt164.2.2.2.2.1 bt164.2.2.2.2.2.1 bt164.2.2.2.2.2.2.1 bt164.2.2.2.2.2.2.2.1 bt164.2.2.2.2.2.2.2.2.1 bt164.2.2.2.2.2.2.2.2.2.1 bt164.2.2.2.2.2.2.2.2.2.2.1 bt164.2.2.2.2.2.2.2.2.2.2.2.1 bt164.2.2.2.2.2.2.2.2.2.2.2.2.1 bt164.2.2.2.2.2.2.2.2.2.2.2.2.2.1 bt164.2.2.2.2.2.2.2.2.2.2.2.2.2.2.1 bt164.2.2.2.2.2.2.2.2.2.2.2.2.2.2.2.1 bt164.2.2.2.2.2.2.2.2.2.2.2.2.2.2.2.2.1 bt164.2.2.2.2.2.2.2.2.2.2.2.2.2.2.2.2.2.1 bt164.2.2.2.2.2.2.2.2.2.2.2.2.2.2.2.2.2.2) else ((head_Reader_Head.f bt164.2.1 bt164.2.2.1 bt164.2.2.2.1 bt164.2.2.2.2.1 bt164.2.2.2.2.2.1 bt164.2.2.2.2.2.2.1 bt164.2.2.2.2.2.2.2.1 bt164.2.2.2.2.2.2.2.2.1 bt164.2.2.2.2.2.2.2.2.2.1 bt164.2.2.2.2.2.2.2.2.2.2.1 bt164.2.2.2.2.2.2.2.2.2.2.2.1 bt164.2.2.2.2.2.2.2.2.2.2.2.2.1 bt164.2.2.2.2.2.2.2.2.2.2.2.2.2.1 bt164.2.2.2.2.2.2.2.2.2.2.2.2.2.2.1 bt164.2.2.2.2.2.2.2.2.2.2.2.2.2.2.2.1 bt164.2.2.2.2.2.2.2.2.2.2.2.2.2.2.2.2.1 bt164.2.2.2.2.2.2.2.2.2.2.2.2.2.2.2.2.2.1 bt164.2.2.2.2.2.2.2.2.2.2.2.2.2.2.2.2.2.2).bind fun bt183 => (if (bt183.1 == 0 && (bt183.2.1 == 0 && (bt183.2.2.1 == 0 && (bt183.2.2.2.1 == 0)))) = true then (some (bt183.1, bt183.2.1, bt183.2.2.1, bt183.2.2.2.1, 0, bt183.2.2.2.2.1)) else (some (bt183.1, bt183.2.1, bt183.2.2.1, bt183.2.2.2.1, wrap64 (x15 + 1), 0)))))) else (none)) else (none)) else (some (0, 0, 0, 0, 0, 6))
def head_Parse.f (k : Nat) (a0 : ByteArray) (a1_0 : Int) (a1_1 : Int) (a1_2 : Int) : Option (Int × Int × Int × Int × Int × Int) := (head_New.f a1_0 a1_1 a1_2).bind fun bt145 => (head_Parse.l0 k a0 (a0.size : Int) 0 bt145.1 bt145.2.1 bt145.2.2.1 bt145.2.2.2.1 bt145.2.2.2.2.1 bt145.2.2.2.2.2.1 bt145.2.2.2.2.2.2.1 bt145.2.2.2.2.2.2.2.1 bt145.2.2.2.2.2.2.2.2.1 bt145.2.2.2.2.2.2.2.2.2.1 bt145.2.2.2.2.2.2.2.2.2.2.1 bt145.2.2.2.2.2.2.2.2.2.2.2.1 bt145.2.2.2.2.2.2.2.2.2.2.2.2.1 bt145.2.2.2.2.2.2.2.2.2.2.2.2.2.1 bt145.2.2.2.2.2.2.2.2.2.2.2.2.2.2.1 bt145.2.2.2.2.2.2.2.2.2.2.2.2.2.2.2.1 bt145.2.2.2.2.2.2.2.2.2.2.2.2.2.2.2.2.1 bt145.2.2.2.2.2.2.2.2.2.2.2.2.2.2.2.2.2)
theorem head_Parse.mono_l : ∀ k, (∀ y0 y1 y2 y3 y4 y5 y6 y7 y8 y9 y10 y11 y12 y13 y14 y15 y16 y17 y18 y19 y20, LeO (head_Parse.l0 k y0 y1 y2 y3 y4 y5 y6 y7 y8 y9 y10 y11 y12 y13 y14 y15 y16 y17 y18 y19 y20) (head_Parse.l0 (k + 1) y0 y1 y2 y3 y4 y5 y6 y7 y8 y9 y10 y11 y12 y13 y14 y15 y16 y17 y18 y19 y20))
 | 0 => fun _ _ _ _ _ _ _ _ _ _ _ _ _ _ _ _ _ _ _ _ _ r h => by simp [head_Parse.l0] at h
 | k + 1 => by
  have ih0 := head_Parse.mono_l k
  · intro y0 y1 y2 y3 y4 y5 y6 y7 y8 y9 y10 y11 y12 y13 y14 y15 y16 y17 y18 y19 y20
    unfold head_Parse.l0
    repeat' first
    | (with_reducible exact ih0 _ _ _ _ _ _ _ _ _ _ _ _ _ _ _ _ _ _ _ _ _)
    | (with_reducible exact LeO.refl _)
    | (with_reducible exact LeO.none _)
    | (with_reducible refine LeO.ite ?_ ?_)
    | (with_reducible refine LeO.bind ?_ (fun _ => ?_))
    | exact ih0 _ _ _ _ _ _ _ _ _ _ _ _ _ _ _ _ _ _ _ _ _
    | exact LeO.none _
    | refine LeO.ite ?_ ?_
    | refine LeO.bind ?_ (fun _ => ?_)
theorem head_Parse.mono : ∀ a0 a1 a2 a3 k, LeO (head_Parse.f k a0 a1 a2 a3) (head_Parse.f (k + 1) a0 a1 a2 a3) := by
 intro a0 a1 a2 a3 k
 have ih0 := head_Parse.mono_l k
 unfold head_Parse.f
 repeat' first
  | (with_reducible exact ih0 _ _ _ _ _ _ _ _ _ _ _ _ _ _ _ _ _ _ _ _ _)
  | (with_reducible exact LeO.refl _)
  | (with_reducible exact LeO.none _)
  | (with_reducible refine LeO.ite ?_ ?_)
  | (with_reducible refine LeO.bind ?_ (fun _ => ?_))
  | exact ih0 _ _ _ _ _ _ _ _ _ _ _ _ _ _ _ _ _ _ _ _ _
  | exact LeO.none _
  | refine LeO.ite ?_ ?_
  | refine LeO.bind ?_ (fun _ => ?_)
set_option maxHeartbeats 8000000 in
set_option maxRecDepth 100000 in
theorem head_Parse.calls (k : Nat) (a0 : ByteArray) (a1_0 : Int) (a1_1 : Int) (a1_2 : Int) (r1 : Int) (r2 : Int) (r3 : Int) (r4 : Int) (r5 : Int) (r6 : Int) (w : World) (h : head_Parse.f k a0 a1_0 a1_1 a1_2 = some (r1, r2, r3, r4, r5, r6)) :
 Calls Try.prog 15 #[.string a0, .agg #[.int .i64 a1_0, .int .i64 a1_1, .int .i64 a1_2]] w fun e w' => e = .returned (.tuple #[.agg #[.int .i64 r1, .int .i64 r2, .int .i64 r3, .int .i64 r4], .int .i64 r5, .int .i64 r6]) ∧ Below w.heap.size w w' := by
 have hu23 := Try.underlying23
 have hu36 := Try.underlying36
 have HB := Aside0.mk (Below.refl w.heap.size w)
 have H : ((head_New.f a1_0 a1_1 a1_2).bind fun bt145 => (head_Parse.l0 k a0 (a0.size : Int) 0 bt145.1 bt145.2.1 bt145.2.2.1 bt145.2.2.2.1 bt145.2.2.2.2.1 bt145.2.2.2.2.2.1 bt145.2.2.2.2.2.2.1 bt145.2.2.2.2.2.2.2.1 bt145.2.2.2.2.2.2.2.2.1 bt145.2.2.2.2.2.2.2.2.2.1 bt145.2.2.2.2.2.2.2.2.2.2.1 bt145.2.2.2.2.2.2.2.2.2.2.2.1 bt145.2.2.2.2.2.2.2.2.2.2.2.2.1 bt145.2.2.2.2.2.2.2.2.2.2.2.2.2.1 bt145.2.2.2.2.2.2.2.2.2.2.2.2.2.2.1 bt145.2.2.2.2.2.2.2.2.2.2.2.2.2.2.2.1 bt145.2.2.2.2.2.2.2.2.2.2.2.2.2.2.2.2.1 bt145.2.2.2.2.2.2.2.2.2.2.2.2.2.2.2.2.2)) = some (r1, r2, r3, r4, r5, r6) := h
 clear h
 replace H := Option.bind_eq_some_iff.mp H
 obtain ⟨⟨t145, t146, t147, t148, t149, t150, t151, t152, t153, t154, t155, t156, t157, t158, t159, t160, t161, t162⟩, A30, H⟩ := H
 replace H : (head_Parse.l0 k a0 (a0.size : Int) 0 t145 t146 t147 t148 t149 t150 t151 t152 t153 t154 t155 t156 t157 t158 t159 t160 t161 t162) = some (r1, r2, r3, r4, r5, r6) := H
 have A3 := Aside0.mk A30
 clear A30
 have H' := Aside0.mk H
 clear H
 go_enter Try.func15, Try.ntmps15
 go_wp2_with (first | ((with_reducible refine gate_dst (N := 3) rfl ?_); refine box_event ?hg (N := 3) ?hd (cs := #[.int .i64 a1_0, .int .i64 a1_1, .int .i64 a1_2]) (t := 23) ?hr ?_; (case hd => rfl); (case hg => rfl); (case hr => first | (go_simp; done) | (go_simp; rfl)); intro gb143 hg w4 hbox hb; have BK143 := Aside0.mk (hbox); have GW143 := Aside0.mk ((by rw [hg]; exact (below_size bp_) : w.heap.size ≤ gb143)); have GE143 := Aside0.mk ((by rw [hg]; exact (below_size bp_) : w.heap.size ≤ gb143)); replace HB := Aside0.mk (below_step bp_ hb); clear hb hbox hg) | ((with_reducible refine gate_dst (N := 4) rfl ?_); refine box_event ?hg (N := 4) ?hd (cs := #[.int .i64 0, .int .i64 0, .int .i64 0, .int .i64 0]) (t := 36) ?hr ?_; (case hd => rfl); (case hg => rfl); (case hr => first | (go_simp; done) | (go_simp; rfl)); intro gb144 hg w5 hbox hb; have BK144 := Aside0.mk (hbox); have GW144 := Aside0.mk ((by rw [hg]; exact (below_size bp_) : w.heap.size ≤ gb144)); have GE144 := Aside0.mk ((by rw [hg]; exact (below_size bp_) : w.heap.size ≤ gb144)); replace HB := Aside0.mk (below_step bp_ hb); have NB143_144 := Aside0.mk ((nlt_ hg (hp_ BK143.out))); have NB144_143 := Aside0.mk ((ngt_ hg (hp_ BK143.out))); replace BK143 := Aside0.mk (blk_below (hp_ BK143.out) hb); clear hb hbox hg; have hnb6 := NB143_144.out; have hnc6 := NB144_143.out; have hcz7_0 : w5.cell? ⟨gb143, 0, none⟩ = some (.int .i64 a1_0) := (blk_cell BK143.out 0).trans rfl; have hcz7_1 : w5.cell? ⟨gb143, 1, none⟩ = some (.int .i64 a1_1) := (blk_cell BK143.out 1).trans rfl; have hcz7_2 : w5.cell? ⟨gb143, 2, none⟩ = some (.int .i64 a1_2) := (blk_cell BK143.out 2).trans rfl; have hfz7_0 := blk_frozen BK143.out 0; have hfz7_1 := blk_frozen BK143.out 1; have hfz7_2 := blk_frozen BK143.out 2) | ((with_reducible refine gate_callee (f := 19) rfl ?_); refine goQ_ (some 12) Try.func19 #[.agg #[.int .i64 a1_0, .int .i64 a1_1, .int .i64 a1_2]] ?_; (with_reducible refine (head_New.calls a1_0 a1_1 a1_2 t145 t146 t147 t148 t149 t150 t151 t152 t153 t154 t155 t156 t157 t158 t159 t160 t161 t162 w _ ?side1 A3.out).mono ?_); (case side1 => repeat (first | (with_reducible first | exact HB.out | apply below_alloc | apply pw_below_drewN | apply below_drew1 | refine below_set ?_ GE144.out) | exact HB.out)); rintro e w8 ⟨g163, rfl, hi, hb, hb2⟩; refine ⟨_, rfl, ?_⟩; replace HB := Aside0.mk (hb); have HI163 := Aside0.mk (hi); have NB163_144 := Aside0.mk (IsS77.ne_blk hi (blk_below (hp_ BK144.out) hb2) (by decide)); have NB144_163 := Aside0.mk (Ne.symm (IsS77.ne_blk hi (blk_below (hp_ BK144.out) hb2) (by decide))); replace BK144 := Aside0.mk (blk_below (hp_ BK144.out) hb2); (try clear hb); (try clear hb2); (try clear hk); (try clear hi)))
 go_loopg [15] k (fun kq v15 w' => ∃ (x15_1 : Int) (x145000_1 : Int) (x145001_1 : Int) (x145002_1 : Int) (x145003_1 : Int) (x164000_1 : Int) (x164001_1 : Int) (x164002_1 : Int) (x164003_1 : Int) (x164004_1 : Int) (x164005_1 : Int) (x164006_1 : Int) (x164007_1 : Int) (x164008_1 : Int) (x164009_1 : Bool) (x164010_1 : Int) (x164011_1 : Int) (x164012_1 : Int) (x164013_1 : Bool) (x164014_1 : Int) (x164015_1 : Int) (x164016_1 : Int) (x164017_1 : Int), v15 = .int .i64 x15_1 ∧ Aside0 (head_Parse.l0 kq a0 (a0.size : Int) x15_1 x164000_1 x164001_1 x164002_1 x164003_1 x164004_1 x164005_1 x164006_1 x164007_1 x164008_1 x164009_1 x164010_1 x164011_1 x164012_1 x164013_1 x164014_1 x164015_1 x164016_1 x164017_1 = some (r1, r2, r3, r4, r5, r6)) ∧ Aside0 (kq ≤ k) ∧ Aside0 (w'.heap[gb144]? = some (.cells #[.int .i64 x145000_1, .int .i64 x145001_1, .int .i64 x145002_1, .int .i64 x145003_1] 36 (0, 0))) ∧ Aside0 (IsS77 w w' g163 x164000_1 x164001_1 x164002_1 x164003_1 x164004_1 x164005_1 x164006_1 x164007_1 x164008_1 x164009_1 x164010_1 x164011_1 x164012_1 x164013_1 x164014_1 x164015_1 x164016_1 x164017_1) ∧ Aside0 (Below w.heap.size w w'))
 case atStart => exact ⟨(0), (0), (0), (0), (0), (t145), (t146), (t147), (t148), (t149), (t150), (t151), (t152), (t153), (t154), (t155), (t156), (t157), (t158), (t159), (t160), (t161), (t162), (by first | rfl | (simp; done) | (simp [*]; done)), H', ⟨Nat.le_refl _⟩, ⟨hp_ BK144.out⟩, ⟨by repeat (first | (with_reducible first | exact HI163.out | apply IsS77.alloc | apply IsS77.drewN | apply IsS77.drew | apply IsS77.set_0 | apply IsS77.set_1 | apply IsS77.set_2 | apply IsS77.set_3 | apply IsS77.set_4 | apply IsS77.set_5 | apply IsS77.set_6 | apply IsS77.set_7 | apply IsS77.set_8 | apply IsS77.set_9 | apply IsS77.set_10 | apply IsS77.set_11 | apply IsS77.set_12 | apply IsS77.set_13 | apply IsS77.set_14 | apply IsS77.set_15 | apply IsS77.set_16 | apply IsS77.set_17 | refine IsS77.far2 ?_ (by repeat (first | exact ⟨_, BK144.out⟩ | apply isTy_set | apply isTy_drewN | apply isTy_drew | apply isTy_alloc)) (by decide)) | exact HI163.out)⟩, ⟨by repeat (first | (with_reducible first | exact HB.out | apply below_alloc | apply pw_below_drewN | apply below_drew1 | refine below_set ?_ (IsS77.ge HI163.out) | refine below_set ?_ GE144.out) | exact HB.out)⟩⟩
 case round =>
  clear H'
  try clear c1
  try clear p2
  try clear c6
  try clear hcz7_0
  try clear hcz7_1
  try clear hcz7_2
  try clear hfz7_0
  try clear hfz7_1
  try clear hfz7_2
  obtain ⟨x15_1, x145000_1, x145001_1, x145002_1, x145003_1, x164000_1, x164001_1, x164002_1, x164003_1, x164004_1, x164005_1, x164006_1, x164007_1, x164008_1, x164009_1, x164010_1, x164011_1, x164012_1, x164013_1, x164014_1, x164015_1, x164016_1, x164017_1, rfl, HA, HK1, BK144, HI163, HB⟩ := hrel
  cases gk with
  | zero => exact absurd HA.out (by simp [head_Parse.l0])
  | succ k1 =>
   have H := HA.out; clear HA; simp only [head_Parse.l0] at H
   by_cases c9 : x15_1 < (a0.size : Int)
   · rw [if_pos c9] at H
     have c9b0 : decide (x15_1 < (a0.size : Int)) = true := decide_eq_true c9
     clear c9
     by_cases c10 : 0 ≤ x15_1
     · rw [if_pos c10] at H
       have c10b0 : decide (0 ≤ x15_1) = true := decide_eq_true c10
       clear c10
       by_cases c11 : x15_1 < (a0.size : Int)
       · rw [if_pos c11] at H
         have c11b0 : decide (x15_1 < (a0.size : Int)) = true := decide_eq_true c11
         clear c11; replace H := Option.bind_eq_some_iff.mp H; obtain ⟨⟨t164, t165, t166, t167, t168, t169, t170, t171, t172, t173, t174, t175, t176, t177, t178, t179, t180, t181, t182⟩, A130, H⟩ := H
         replace H : (if t164 = 0 then (head_Parse.l0 k1 a0 (a0.size : Int) (wrap64 (x15_1 + 1)) t165 t166 t167 t168 t169 t170 t171 t172 t173 t174 t175 t176 t177 t178 t179 t180 t181 t182) else ((head_Reader_Head.f t165 t166 t167 t168 t169 t170 t171 t172 t173 t174 t175 t176 t177 t178 t179 t180 t181 t182).bind fun bt183 => (if (bt183.1 == 0 && (bt183.2.1 == 0 && (bt183.2.2.1 == 0 && (bt183.2.2.2.1 == 0)))) = true then (some (bt183.1, bt183.2.1, bt183.2.2.1, bt183.2.2.2.1, 0, bt183.2.2.2.2.1)) else (some (bt183.1, bt183.2.1, bt183.2.2.1, bt183.2.2.2.1, wrap64 (x15_1 + 1), 0))))) = some (r1, r2, r3, r4, r5, r6) := H
         have A13 := Aside0.mk A130; clear A130
         by_cases c14 : t164 = 0
         · rw [if_pos c14] at H
           have c14b0 : (t164 == 0) = true := beq_iff_eq.mpr c14
           have c14b1 : (t164 != 0) = false := bne_eq_false_iff_eq.mpr c14
           clear c14
           have H' := Aside0.mk H
           clear H
           have p12 : 0 ≤ (x15_1 : Int) := of_decide_eq_true (by first | (with_reducible assumption) | assumption)
           have q12 : x15_1 < (a0.size : Int) := of_decide_eq_true (by first | (with_reducible assumption) | assumption)
           have hx12 := bt_at a0 x15_1; replace p12 := eq_true p12; replace q12 := eq_true q12
           go_wp2_with (first | ((with_reducible refine gate_callee (f := 20) rfl ?_); refine goQ_ (some 22) Try.func20 #[.pointer (some ⟨g163, 0, none⟩), .int .u8 (bt a0 x15_1)] ?_; (with_reducible refine (head_Reader_Put.calls g163 x164000_1 x164001_1 x164002_1 x164003_1 x164004_1 x164005_1 x164006_1 x164007_1 x164008_1 x164009_1 x164010_1 x164011_1 x164012_1 x164013_1 x164014_1 x164015_1 x164016_1 x164017_1 (bt a0 x15_1) t164 t165 t166 t167 t168 t169 t170 t171 t172 t173 t174 t175 t176 t177 t178 t179 t180 t181 t182 w _ ?side1 ?side2 A13.out).mono ?_); (case side1 => repeat (first | (with_reducible first | exact HI163.out | apply IsS77.alloc | apply IsS77.drewN | apply IsS77.drew | apply IsS77.set_0 | apply IsS77.set_1 | apply IsS77.set_2 | apply IsS77.set_3 | apply IsS77.set_4 | apply IsS77.set_5 | apply IsS77.set_6 | apply IsS77.set_7 | apply IsS77.set_8 | apply IsS77.set_9 | apply IsS77.set_10 | apply IsS77.set_11 | apply IsS77.set_12 | apply IsS77.set_13 | apply IsS77.set_14 | apply IsS77.set_15 | apply IsS77.set_16 | apply IsS77.set_17 | refine IsS77.far2 ?_ (by repeat (first | exact ⟨_, BK144.out⟩ | apply isTy_set | apply isTy_drewN | apply isTy_drew | apply isTy_alloc)) (by decide)) | exact HI163.out)); (case side2 => repeat (first | (with_reducible first | exact HB.out | apply below_alloc | apply pw_below_drewN | apply below_drew1 | refine below_set ?_ (IsS77.ge HI163.out) | refine below_set ?_ GE144.out) | exact HB.out)); rintro e w15 ⟨rfl, hi, hb, hk⟩; refine ⟨_, rfl, ?_⟩; replace BK144 := Aside0.mk (HdKeep.blk hk (g' := gb144) (o := .cells #[.int .i64 x145000_1, .int .i64 x145001_1, .int .i64 x145002_1, .int .i64 x145003_1] 36 (0, 0)) (hp_ BK144.out) NB144_163.out (by simp)); replace HB := Aside0.mk (hb); replace HI163 := Aside0.mk (hi); (try clear hb); (try clear hb2); (try clear hk); (try clear hi)))
           go_roundg k1
           case measure => have := HK1.out; omega
           case rel => exact ⟨(wrap64 (x15_1 + 1)), (x145000_1), (x145001_1), (x145002_1), (x145003_1), (t165), (t166), (t167), (t168), (t169), (t170), (t171), (t172), (t173), (t174), (t175), (t176), (t177), (t178), (t179), (t180), (t181), (t182), (by first | rfl | (simp; done) | (simp [*]; done)), H', ⟨by have := HK1.out; omega⟩, ⟨hp_ BK144.out⟩, ⟨by repeat (first | (with_reducible first | exact HI163.out | apply IsS77.alloc | apply IsS77.drewN | apply IsS77.drew | apply IsS77.set_0 | apply IsS77.set_1 | apply IsS77.set_2 | apply IsS77.set_3 | apply IsS77.set_4 | apply IsS77.set_5 | apply IsS77.set_6 | apply IsS77.set_7 | apply IsS77.set_8 | apply IsS77.set_9 | apply IsS77.set_10 | apply IsS77.set_11 | apply IsS77.set_12 | apply IsS77.set_13 | apply IsS77.set_14 | apply IsS77.set_15 | apply IsS77.set_16 | apply IsS77.set_17 | refine IsS77.far2 ?_ (by repeat (first | exact ⟨_, BK144.out⟩ | apply isTy_set | apply isTy_drewN | apply isTy_drew | apply isTy_alloc)) (by decide)) | exact HI163.out)⟩, ⟨by repeat (first | (with_reducible first | exact HB.out | apply below_alloc | apply pw_below_drewN | apply below_drew1 | refine below_set ?_ (IsS77.ge HI163.out) | refine below_set ?_ GE144.out) | exact HB.out)⟩⟩
         rw [if_neg c14] at H
         have c14b0 : (t164 == 0) = false := beq_eq_false_iff_ne.mpr c14
         have c14b1 : (t164 != 0) = true := bne_iff_ne.mpr c14
         replace H := Option.bind_eq_some_iff.mp H; obtain ⟨⟨t183, t184, t185, t186, t187, t188, t189, t190, t191, t192, t193, t194, t195, t196, t197, t198, t199, t200, t201, t202, t203, t204, t205⟩, A160, H⟩ := H
         replace H : (if (t183 == 0 && (t184 == 0 && (t185 == 0 && (t186 == 0)))) = true then (some (t183, t184, t185, t186, 0, t187)) else (some (t183, t184, t185, t186, wrap64 (x15_1 + 1), 0))) = some (r1, r2, r3, r4, r5, r6) := H
         have A16 := Aside0.mk A160; clear A160
         by_cases c17 : (t183 == 0 && (t184 == 0 && (t185 == 0 && (t186 == 0)))) = true
         · rw [if_pos c17] at H
           have c17b0 : (t183 == 0 && (t184 == 0 && (t185 == 0 && (t186 == 0)))) = true := c17
           (try (have c17b1 : decide (t183 = 0 && (t184 == 0 && (t185 == 0 && (t186 == 0)))) = true := by simpa using c17))
           (try (have c17b2 : (t183 == 0 && (t184 == 0 && (t185 == 0 && (t186 == 0)))) = true := by simpa using c17))
           clear c17; simp only [Option.some.injEq, Prod.mk.injEq] at H; obtain ⟨rfl, rfl, rfl, rfl, rfl, rfl⟩ := H
           have p12 : 0 ≤ (x15_1 : Int) := of_decide_eq_true (by first | (with_reducible assumption) | assumption)
           have q12 : x15_1 < (a0.size : Int) := of_decide_eq_true (by first | (with_reducible assumption) | assumption)
           have hx12 := bt_at a0 x15_1; replace p12 := eq_true p12; replace q12 := eq_true q12
           go_wp2_with (first | ((with_reducible refine gate_callee (f := 20) rfl ?_); refine goQ_ (some 22) Try.func20 #[.pointer (some ⟨g163, 0, none⟩), .int .u8 (bt a0 x15_1)] ?_; (with_reducible refine (head_Reader_Put.calls g163 x164000_1 x164001_1 x164002_1 x164003_1 x164004_1 x164005_1 x164006_1 x164007_1 x164008_1 x164009_1 x164010_1 x164011_1 x164012_1 x164013_1 x164014_1 x164015_1 x164016_1 x164017_1 (bt a0 x15_1) t164 t165 t166 t167 t168 t169 t170 t171 t172 t173 t174 t175 t176 t177 t178 t179 t180 t181 t182 w _ ?side1 ?side2 A13.out).mono ?_); (case side1 => repeat (first | (with_reducible first | exact HI163.out | apply IsS77.alloc | apply IsS77.drewN | apply IsS77.drew | apply IsS77.set_0 | apply IsS77.set_1 | apply IsS77.set_2 | apply IsS77.set_3 | apply IsS77.set_4 | apply IsS77.set_5 | apply IsS77.set_6 | apply IsS77.set_7 | apply IsS77.set_8 | apply IsS77.set_9 | apply IsS77.set_10 | apply IsS77.set_11 | apply IsS77.set_12 | apply IsS77.set_13 | apply IsS77.set_14 | apply IsS77.set_15 | apply IsS77.set_16 | apply IsS77.set_17 | refine IsS77.far2 ?_ (by repeat (first | exact ⟨_, BK144.out⟩ | apply isTy_set | apply isTy_drewN | apply isTy_drew | apply isTy_alloc)) (by decide)) | exact HI163.out)); (case side2 => repeat (first | (with_reducible first | exact HB.out | apply below_alloc | apply pw_below_drewN | apply below_drew1 | refine below_set ?_ (IsS77.ge HI163.out) | refine below_set ?_ GE144.out) | exact HB.out)); rintro e w18 ⟨rfl, hi, hb, hk⟩; refine ⟨_, rfl, ?_⟩; replace BK144 := Aside0.mk (HdKeep.blk hk (g' := gb144) (o := .cells #[.int .i64 x145000_1, .int .i64 x145001_1, .int .i64 x145002_1, .int .i64 x145003_1] 36 (0, 0)) (hp_ BK144.out) NB144_163.out (by simp)); replace HB := Aside0.mk (hb); replace HI163 := Aside0.mk (hi); (try clear hb); (try clear hb2); (try clear hk); (try clear hi)) | ((with_reducible refine gate_callee (f := 21) rfl ?_); refine goQ_ (some 26) Try.func21 #[.pointer (some ⟨g163, 0, none⟩)] ?_; (with_reducible refine (head_Reader_Head.calls g163 t165 t166 t167 t168 t169 t170 t171 t172 t173 t174 t175 t176 t177 t178 t179 t180 t181 t182 t183 t184 t185 t186 t187 t188 t189 t190 t191 t192 t193 t194 t195 t196 t197 t198 t199 t200 t201 t202 t203 t204 t205 w _ ?side1 ?side2 A16.out).mono ?_); (case side1 => repeat (first | (with_reducible first | exact HI163.out | apply IsS77.alloc | apply IsS77.drewN | apply IsS77.drew | apply IsS77.set_0 | apply IsS77.set_1 | apply IsS77.set_2 | apply IsS77.set_3 | apply IsS77.set_4 | apply IsS77.set_5 | apply IsS77.set_6 | apply IsS77.set_7 | apply IsS77.set_8 | apply IsS77.set_9 | apply IsS77.set_10 | apply IsS77.set_11 | apply IsS77.set_12 | apply IsS77.set_13 | apply IsS77.set_14 | apply IsS77.set_15 | apply IsS77.set_16 | apply IsS77.set_17 | refine IsS77.far2 ?_ (by repeat (first | exact ⟨_, BK144.out⟩ | apply isTy_set | apply isTy_drewN | apply isTy_drew | apply isTy_alloc)) (by decide)) | exact HI163.out)); (case side2 => repeat (first | (with_reducible first | exact HB.out | apply below_alloc | apply pw_below_drewN | apply below_drew1 | refine below_set ?_ (IsS77.ge HI163.out) | refine below_set ?_ GE144.out) | exact HB.out)); rintro e w19 ⟨rfl, hi, hb, hk⟩; refine ⟨_, rfl, ?_⟩; replace BK144 := Aside0.mk (HdKeep.blk hk (g' := gb144) (o := .cells #[.int .i64 x145000_1, .int .i64 x145001_1, .int .i64 x145002_1, .int .i64 x145003_1] 36 (0, 0)) (hp_ BK144.out) NB144_163.out (by simp)); replace HB := Aside0.mk (hb); replace HI163 := Aside0.mk (hi); (try clear hb); (try clear hb2); (try clear hk); (try clear hi)) | ((with_reducible refine gate_dst (N := 9) rfl ?_); refine box_event ?hg (N := 9) ?hd (cs := #[.int .i64 0, .int .i64 0, .int .i64 0, .int .i64 0]) (t := 36) ?hr ?_; (case hd => rfl); (case hg => rfl); (case hr => first | (go_simp; done) | (go_simp; rfl)); intro gb206 hg w20 hbox hb; have BK206 := Aside0.mk (hbox); have GW206 := Aside0.mk ((by rw [hg]; exact (below_size (by repeat (first | (with_reducible first | exact HB.out | apply below_alloc | apply pw_below_drewN | apply below_drew1 | refine below_set ?_ (IsS77.ge HI163.out) | refine below_set ?_ GE144.out) | exact HB.out))) : w.heap.size ≤ gb206)); have GE206 := Aside0.mk ((by rw [hg]; exact (below_size (by repeat (first | (with_reducible first | exact HB.out | apply below_alloc | apply pw_below_drewN | apply below_drew1 | refine below_set ?_ (IsS77.ge HI163.out) | refine below_set ?_ GE144.out) | exact HB.out))) : w.heap.size ≤ gb206)); replace HB := Aside0.mk (below_step (by repeat (first | (with_reducible first | exact HB.out | apply below_alloc | apply pw_below_drewN | apply below_drew1 | refine below_set ?_ (IsS77.ge HI163.out) | refine below_set ?_ GE144.out) | exact HB.out)) hb); have NB144_206 := Aside0.mk ((nlt_ hg (hp_ BK144.out))); have NB206_144 := Aside0.mk ((ngt_ hg (hp_ BK144.out))); replace BK144 := Aside0.mk (blk_below (hp_ BK144.out) hb); have NB163_206 := Aside0.mk ((by rw [hg]; exact Nat.ne_of_lt (IsS77.lt (show IsS77 w _ g163 t188 t189 t190 t191 t192 t193 t194 t195 t196 t197 t198 t199 t200 t201 t202 t203 t204 t205 from by repeat (first | (with_reducible first | exact HI163.out | apply IsS77.alloc | apply IsS77.drewN | apply IsS77.drew | apply IsS77.set_0 | apply IsS77.set_1 | apply IsS77.set_2 | apply IsS77.set_3 | apply IsS77.set_4 | apply IsS77.set_5 | apply IsS77.set_6 | apply IsS77.set_7 | apply IsS77.set_8 | apply IsS77.set_9 | apply IsS77.set_10 | apply IsS77.set_11 | apply IsS77.set_12 | apply IsS77.set_13 | apply IsS77.set_14 | apply IsS77.set_15 | apply IsS77.set_16 | apply IsS77.set_17 | refine IsS77.far2 ?_ (by repeat (first | exact ⟨_, BK144.out⟩ | apply isTy_set | apply isTy_drewN | apply isTy_drew | apply isTy_alloc)) (by decide)) | exact HI163.out))) : g163 ≠ gb206)); have NB206_163 := Aside0.mk ((by rw [hg]; exact Nat.ne_of_gt (IsS77.lt (show IsS77 w _ g163 t188 t189 t190 t191 t192 t193 t194 t195 t196 t197 t198 t199 t200 t201 t202 t203 t204 t205 from by repeat (first | (with_reducible first | exact HI163.out | apply IsS77.alloc | apply IsS77.drewN | apply IsS77.drew | apply IsS77.set_0 | apply IsS77.set_1 | apply IsS77.set_2 | apply IsS77.set_3 | apply IsS77.set_4 | apply IsS77.set_5 | apply IsS77.set_6 | apply IsS77.set_7 | apply IsS77.set_8 | apply IsS77.set_9 | apply IsS77.set_10 | apply IsS77.set_11 | apply IsS77.set_12 | apply IsS77.set_13 | apply IsS77.set_14 | apply IsS77.set_15 | apply IsS77.set_16 | apply IsS77.set_17 | refine IsS77.far2 ?_ (by repeat (first | exact ⟨_, BK144.out⟩ | apply isTy_set | apply isTy_drewN | apply isTy_drew | apply isTy_alloc)) (by decide)) | exact HI163.out))) : gb206 ≠ g163)); replace HI163 := Aside0.mk (IsS77.below (by repeat (first | (with_reducible first | exact HI163.out | apply IsS77.alloc | apply IsS77.drewN | apply IsS77.drew | apply IsS77.set_0 | apply IsS77.set_1 | apply IsS77.set_2 | apply IsS77.set_3 | apply IsS77.set_4 | apply IsS77.set_5 | apply IsS77.set_6 | apply IsS77.set_7 | apply IsS77.set_8 | apply IsS77.set_9 | apply IsS77.set_10 | apply IsS77.set_11 | apply IsS77.set_12 | apply IsS77.set_13 | apply IsS77.set_14 | apply IsS77.set_15 | apply IsS77.set_16 | apply IsS77.set_17 | refine IsS77.far2 ?_ (by repeat (first | exact ⟨_, BK144.out⟩ | apply isTy_set | apply isTy_drewN | apply isTy_drew | apply isTy_alloc)) (by decide)) | exact HI163.out)) hb); clear hb hbox hg; have hnb21 := NB206_144.out; have hnc21 := NB144_206.out; have hnb22 := NB206_163.out; have hnc22 := NB163_206.out; have hcz23_0 : w20.cell? ⟨gb206, 0, none⟩ = some (.int .i64 0) := (blk_cell BK206.out 0).trans rfl; have hcz23_1 : w20.cell? ⟨gb206, 1, none⟩ = some (.int .i64 0) := (blk_cell BK206.out 1).trans rfl; have hcz23_2 : w20.cell? ⟨gb206, 2, none⟩ = some (.int .i64 0) := (blk_cell BK206.out 2).trans rfl; have hcz23_3 : w20.cell? ⟨gb206, 3, none⟩ = some (.int .i64 0) := (blk_cell BK206.out 3).trans rfl; have hfz23_0 := blk_frozen BK206.out 0; have hfz23_1 := blk_frozen BK206.out 1; have hfz23_2 := blk_frozen BK206.out 2; have hfz23_3 := blk_frozen BK206.out 3; have hnb24 := NB144_163.out; have hnc24 := NB163_144.out; have hcz25_0 : w20.cell? ⟨gb144, 0, none⟩ = some (.int .i64 x145000_1) := (blk_cell BK144.out 0).trans rfl; have hcz25_1 : w20.cell? ⟨gb144, 1, none⟩ = some (.int .i64 x145001_1) := (blk_cell BK144.out 1).trans rfl; have hcz25_2 : w20.cell? ⟨gb144, 2, none⟩ = some (.int .i64 x145002_1) := (blk_cell BK144.out 2).trans rfl; have hcz25_3 : w20.cell? ⟨gb144, 3, none⟩ = some (.int .i64 x145003_1) := (blk_cell BK144.out 3).trans rfl; have hfz25_0 := blk_frozen BK144.out 0; have hfz25_1 := blk_frozen BK144.out 1; have hfz25_2 := blk_frozen BK144.out 2; have hfz25_3 := blk_frozen BK144.out 3))
           refine bodyPost_ret (results_ctt rfl _ _ gb144 36 #[.int .i64 t183, .int .i64 t184, .int .i64 t185, .int .i64 t186] (0, 0) _ rfl (by (with_reducible repeat (first | refine blk_drewN ?_ _ | refine blk_drew ?_ | refine blk_alloc ?_ _)); refine blk_put (cs := #[.int .i64 t183, .int .i64 t184, .int .i64 t185, .int .i64 x145003_1]) ?_ 3 _ rfl; (with_reducible repeat (first | refine blk_drewN ?_ _ | refine blk_drew ?_ | refine blk_alloc ?_ _)); refine blk_put (cs := #[.int .i64 t183, .int .i64 t184, .int .i64 x145002_1, .int .i64 x145003_1]) ?_ 2 _ rfl; (with_reducible repeat (first | refine blk_drewN ?_ _ | refine blk_drew ?_ | refine blk_alloc ?_ _)); refine blk_put (cs := #[.int .i64 t183, .int .i64 x145001_1, .int .i64 x145002_1, .int .i64 x145003_1]) ?_ 1 _ rfl; (with_reducible repeat (first | refine blk_drewN ?_ _ | refine blk_drew ?_ | refine blk_alloc ?_ _)); refine blk_put (cs := #[.int .i64 x145000_1, .int .i64 x145001_1, .int .i64 x145002_1, .int .i64 x145003_1]) ?_ 0 _ rfl; (with_reducible repeat (first | refine blk_drewN ?_ _ | refine blk_drew ?_ | refine blk_alloc ?_ _)); refine blk_far ?_ NB144_206.out _; (with_reducible repeat (first | refine blk_drewN ?_ _ | refine blk_drew ?_ | refine blk_alloc ?_ _)); refine blk_far ?_ NB144_206.out _; (with_reducible repeat (first | refine blk_drewN ?_ _ | refine blk_drew ?_ | refine blk_alloc ?_ _)); refine blk_far ?_ NB144_206.out _; (with_reducible repeat (first | refine blk_drewN ?_ _ | refine blk_drew ?_ | refine blk_alloc ?_ _)); refine blk_far ?_ NB144_206.out _; (with_reducible repeat (first | refine blk_drewN ?_ _ | refine blk_drew ?_ | refine blk_alloc ?_ _)); exact BK144.out) Try.underlying36 rfl (by kernel_rfl)) rfl ?_
           exact ⟨by first | rfl | (simp [errW_none, errW_some] <;> rfl) | (simp [*, errW_none, errW_some] <;> rfl), by repeat (first | (with_reducible first | exact HB.out | apply below_alloc | apply pw_below_drewN | apply below_drew1 | refine below_set ?_ (IsS77.ge HI163.out) | refine below_set ?_ GE144.out | refine below_set ?_ GE206.out) | exact HB.out)⟩
         rw [if_neg c17] at H
         have c17b0 : (t183 == 0 && (t184 == 0 && (t185 == 0 && (t186 == 0)))) = false := by simpa using c17
         (try (have c17b1 : decide (t183 = 0 && (t184 == 0 && (t185 == 0 && (t186 == 0)))) = false := by simpa using c17))
         (try (have c17b2 : (t183 == 0 && (t184 == 0 && (t185 == 0 && (t186 == 0)))) = false := by simpa using c17))
         (try (have c17b3 : ¬ (t183 = 0 && (t184 == 0 && (t185 == 0 && (t186 == 0)))) := by simpa using c17))
         clear c17; simp only [Option.some.injEq, Prod.mk.injEq] at H; obtain ⟨rfl, rfl, rfl, rfl, rfl, rfl⟩ := H
         have p12 : 0 ≤ (x15_1 : Int) := of_decide_eq_true (by first | (with_reducible assumption) | assumption)
         have q12 : x15_1 < (a0.size : Int) := of_decide_eq_true (by first | (with_reducible assumption) | assumption)
         have hx12 := bt_at a0 x15_1; replace p12 := eq_true p12; replace q12 := eq_true q12
         go_wp2_with (first | ((with_reducible refine gate_callee (f := 20) rfl ?_); refine goQ_ (some 22) Try.func20 #[.pointer (some ⟨g163, 0, none⟩), .int .u8 (bt a0 x15_1)] ?_; (with_reducible refine (head_Reader_Put.calls g163 x164000_1 x164001_1 x164002_1 x164003_1 x164004_1 x164005_1 x164006_1 x164007_1 x164008_1 x164009_1 x164010_1 x164011_1 x164012_1 x164013_1 x164014_1 x164015_1 x164016_1 x164017_1 (bt a0 x15_1) t164 t165 t166 t167 t168 t169 t170 t171 t172 t173 t174 t175 t176 t177 t178 t179 t180 t181 t182 w _ ?side1 ?side2 A13.out).mono ?_); (case side1 => repeat (first | (with_reducible first | exact HI163.out | apply IsS77.alloc | apply IsS77.drewN | apply IsS77.drew | apply IsS77.set_0 | apply IsS77.set_1 | apply IsS77.set_2 | apply IsS77.set_3 | apply IsS77.set_4 | apply IsS77.set_5 | apply IsS77.set_6 | apply IsS77.set_7 | apply IsS77.set_8 | apply IsS77.set_9 | apply IsS77.set_10 | apply IsS77.set_11 | apply IsS77.set_12 | apply IsS77.set_13 | apply IsS77.set_14 | apply IsS77.set_15 | apply IsS77.set_16 | apply IsS77.set_17 | refine IsS77.far2 ?_ (by repeat (first | exact ⟨_, BK144.out⟩ | apply isTy_set | apply isTy_drewN | apply isTy_drew | apply isTy_alloc)) (by decide)) | exact HI163.out)); (case side2 => repeat (first | (with_reducible first | exact HB.out | apply below_alloc | apply pw_below_drewN | apply below_drew1 | refine below_set ?_ (IsS77.ge HI163.out) | refine below_set ?_ GE144.out) | exact HB.out)); rintro e w26 ⟨rfl, hi, hb, hk⟩; refine ⟨_, rfl, ?_⟩; replace BK144 := Aside0.mk (HdKeep.blk hk (g' := gb144) (o := .cells #[.int .i64 x145000_1, .int .i64 x145001_1, .int .i64 x145002_1, .int .i64 x145003_1] 36 (0, 0)) (hp_ BK144.out) NB144_163.out (by simp)); replace HB := Aside0.mk (hb); replace HI163 := Aside0.mk (hi); (try clear hb); (try clear hb2); (try clear hk); (try clear hi)) | ((with_reducible refine gate_callee (f := 21) rfl ?_); refine goQ_ (some 26) Try.func21 #[.pointer (some ⟨g163, 0, none⟩)] ?_; (with_reducible refine (head_Reader_Head.calls g163 t165 t166 t167 t168 t169 t170 t171 t172 t173 t174 t175 t176 t177 t178 t179 t180 t181 t182 t183 t184 t185 t186 t187 t188 t189 t190 t191 t192 t193 t194 t195 t196 t197 t198 t199 t200 t201 t202 t203 t204 t205 w _ ?side1 ?side2 A16.out).mono ?_); (case side1 => repeat (first | (with_reducible first | exact HI163.out | apply IsS77.alloc | apply IsS77.drewN | apply IsS77.drew | apply IsS77.set_0 | apply IsS77.set_1 | apply IsS77.set_2 | apply IsS77.set_3 | apply IsS77.set_4 | apply IsS77.set_5 | apply IsS77.set_6 | apply IsS77.set_7 | apply IsS77.set_8 | apply IsS77.set_9 | apply IsS77.set_10 | apply IsS77.set_11 | apply IsS77.set_12 | apply IsS77.set_13 | apply IsS77.set_14 | apply IsS77.set_15 | apply IsS77.set_16 | apply IsS77.set_17 | refine IsS77.far2 ?_ (by repeat (first | exact ⟨_, BK144.out⟩ | apply isTy_set | apply isTy_drewN | apply isTy_drew | apply isTy_alloc)) (by decide)) | exact HI163.out)); (case side2 => repeat (first | (with_reducible first | exact HB.out | apply below_alloc | apply pw_below_drewN | apply below_drew1 | refine below_set ?_ (IsS77.ge HI163.out) | refine below_set ?_ GE144.out) | exact HB.out)); rintro e w27 ⟨rfl, hi, hb, hk⟩; refine ⟨_, rfl, ?_⟩; replace BK144 := Aside0.mk (HdKeep.blk hk (g' := gb144) (o := .cells #[.int .i64 x145000_1, .int .i64 x145001_1, .int .i64 x145002_1, .int .i64 x145003_1] 36 (0, 0)) (hp_ BK144.out) NB144_163.out (by simp)); replace HB := Aside0.mk (hb); replace HI163 := Aside0.mk (hi); (try clear hb); (try clear hb2); (try clear hk); (try clear hi)) | ((with_reducible refine gate_dst (N := 9) rfl ?_); refine box_event ?hg (N := 9) ?hd (cs := #[.int .i64 0, .int .i64 0, .int .i64 0, .int .i64 0]) (t := 36) ?hr ?_; (case hd => rfl); (case hg => rfl); (case hr => first | (go_simp; done) | (go_simp; rfl)); intro gb206 hg w28 hbox hb; have BK206 := Aside0.mk (hbox); have GW206 := Aside0.mk ((by rw [hg]; exact (below_size (by repeat (first | (with_reducible first | exact HB.out | apply below_alloc | apply pw_below_drewN | apply below_drew1 | refine below_set ?_ (IsS77.ge HI163.out) | refine below_set ?_ GE144.out) | exact HB.out))) : w.heap.size ≤ gb206)); have GE206 := Aside0.mk ((by rw [hg]; exact (below_size (by repeat (first | (with_reducible first | exact HB.out | apply below_alloc | apply pw_below_drewN | apply below_drew1 | refine below_set ?_ (IsS77.ge HI163.out) | refine below_set ?_ GE144.out) | exact HB.out))) : w.heap.size ≤ gb206)); replace HB := Aside0.mk (below_step (by repeat (first | (with_reducible first | exact HB.out | apply below_alloc | apply pw_below_drewN | apply below_drew1 | refine below_set ?_ (IsS77.ge HI163.out) | refine below_set ?_ GE144.out) | exact HB.out)) hb); have NB144_206 := Aside0.mk ((nlt_ hg (hp_ BK144.out))); have NB206_144 := Aside0.mk ((ngt_ hg (hp_ BK144.out))); replace BK144 := Aside0.mk (blk_below (hp_ BK144.out) hb); have NB163_206 := Aside0.mk ((by rw [hg]; exact Nat.ne_of_lt (IsS77.lt (show IsS77 w _ g163 t188 t189 t190 t191 t192 t193 t194 t195 t196 t197 t198 t199 t200 t201 t202 t203 t204 t205 from by repeat (first | (with_reducible first | exact HI163.out | apply IsS77.alloc | apply IsS77.drewN | apply IsS77.drew | apply IsS77.set_0 | apply IsS77.set_1 | apply IsS77.set_2 | apply IsS77.set_3 | apply IsS77.set_4 | apply IsS77.set_5 | apply IsS77.set_6 | apply IsS77.set_7 | apply IsS77.set_8 | apply IsS77.set_9 | apply IsS77.set_10 | apply IsS77.set_11 | apply IsS77.set_12 | apply IsS77.set_13 | apply IsS77.set_14 | apply IsS77.set_15 | apply IsS77.set_16 | apply IsS77.set_17 | refine IsS77.far2 ?_ (by repeat (first | exact ⟨_, BK144.out⟩ | apply isTy_set | apply isTy_drewN | apply isTy_drew | apply isTy_alloc)) (by decide)) | exact HI163.out))) : g163 ≠ gb206)); have NB206_163 := Aside0.mk ((by rw [hg]; exact Nat.ne_of_gt (IsS77.lt (show IsS77 w _ g163 t188 t189 t190 t191 t192 t193 t194 t195 t196 t197 t198 t199 t200 t201 t202 t203 t204 t205 from by repeat (first | (with_reducible first | exact HI163.out | apply IsS77.alloc | apply IsS77.drewN | apply IsS77.drew | apply IsS77.set_0 | apply IsS77.set_1 | apply IsS77.set_2 | apply IsS77.set_3 | apply IsS77.set_4 | apply IsS77.set_5 | apply IsS77.set_6 | apply IsS77.set_7 | apply IsS77.set_8 | apply IsS77.set_9 | apply IsS77.set_10 | apply IsS77.set_11 | apply IsS77.set_12 | apply IsS77.set_13 | apply IsS77.set_14 | apply IsS77.set_15 | apply IsS77.set_16 | apply IsS77.set_17 | refine IsS77.far2 ?_ (by repeat (first | exact ⟨_, BK144.out⟩ | apply isTy_set | apply isTy_drewN | apply isTy_drew | apply isTy_alloc)) (by decide)) | exact HI163.out))) : gb206 ≠ g163)); replace HI163 := Aside0.mk (IsS77.below (by repeat (first | (with_reducible first | exact HI163.out | apply IsS77.alloc | apply IsS77.drewN | apply IsS77.drew | apply IsS77.set_0 | apply IsS77.set_1 | apply IsS77.set_2 | apply IsS77.set_3 | apply IsS77.set_4 | apply IsS77.set_5 | apply IsS77.set_6 | apply IsS77.set_7 | apply IsS77.set_8 | apply IsS77.set_9 | apply IsS77.set_10 | apply IsS77.set_11 | apply IsS77.set_12 | apply IsS77.set_13 | apply IsS77.set_14 | apply IsS77.set_15 | apply IsS77.set_16 | apply IsS77.set_17 | refine IsS77.far2 ?_ (by repeat (first | exact ⟨_, BK144.out⟩ | apply isTy_set | apply isTy_drewN | apply isTy_drew | apply isTy_alloc)) (by decide)) | exact HI163.out)) hb); clear hb hbox hg; have hnb29 := NB206_144.out; have hnc29 := NB144_206.out; have hnb30 := NB206_163.out; have hnc30 := NB163_206.out; have hcz31_0 : w28.cell? ⟨gb206, 0, none⟩ = some (.int .i64 0) := (blk_cell BK206.out 0).trans rfl; have hcz31_1 : w28.cell? ⟨gb206, 1, none⟩ = some (.int .i64 0) := (blk_cell BK206.out 1).trans rfl; have hcz31_2 : w28.cell? ⟨gb206, 2, none⟩ = some (.int .i64 0) := (blk_cell BK206.out 2).trans rfl; have hcz31_3 : w28.cell? ⟨gb206, 3, none⟩ = some (.int .i64 0) := (blk_cell BK206.out 3).trans rfl; have hfz31_0 := blk_frozen BK206.out 0; have hfz31_1 := blk_frozen BK206.out 1; have hfz31_2 := blk_frozen BK206.out 2; have hfz31_3 := blk_frozen BK206.out 3; have hnb32 := NB144_163.out; have hnc32 := NB163_144.out; have hcz33_0 : w28.cell? ⟨gb144, 0, none⟩ = some (.int .i64 x145000_1) := (blk_cell BK144.out 0).trans rfl; have hcz33_1 : w28.cell? ⟨gb144, 1, none⟩ = some (.int .i64 x145001_1) := (blk_cell BK144.out 1).trans rfl; have hcz33_2 : w28.cell? ⟨gb144, 2, none⟩ = some (.int .i64 x145002_1) := (blk_cell BK144.out 2).trans rfl; have hcz33_3 : w28.cell? ⟨gb144, 3, none⟩ = some (.int .i64 x145003_1) := (blk_cell BK144.out 3).trans rfl; have hfz33_0 := blk_frozen BK144.out 0; have hfz33_1 := blk_frozen BK144.out 1; have hfz33_2 := blk_frozen BK144.out 2; have hfz33_3 := blk_frozen BK144.out 3))
         refine bodyPost_ret (results_ctt rfl _ _ gb144 36 #[.int .i64 t183, .int .i64 t184, .int .i64 t185, .int .i64 t186] (0, 0) _ rfl (by (with_reducible repeat (first | refine blk_drewN ?_ _ | refine blk_drew ?_ | refine blk_alloc ?_ _)); refine blk_put (cs := #[.int .i64 t183, .int .i64 t184, .int .i64 t185, .int .i64 x145003_1]) ?_ 3 _ rfl; (with_reducible repeat (first | refine blk_drewN ?_ _ | refine blk_drew ?_ | refine blk_alloc ?_ _)); refine blk_put (cs := #[.int .i64 t183, .int .i64 t184, .int .i64 x145002_1, .int .i64 x145003_1]) ?_ 2 _ rfl; (with_reducible repeat (first | refine blk_drewN ?_ _ | refine blk_drew ?_ | refine blk_alloc ?_ _)); refine blk_put (cs := #[.int .i64 t183, .int .i64 x145001_1, .int .i64 x145002_1, .int .i64 x145003_1]) ?_ 1 _ rfl; (with_reducible repeat (first | refine blk_drewN ?_ _ | refine blk_drew ?_ | refine blk_alloc ?_ _)); refine blk_put (cs := #[.int .i64 x145000_1, .int .i64 x145001_1, .int .i64 x145002_1, .int .i64 x145003_1]) ?_ 0 _ rfl; (with_reducible repeat (first | refine blk_drewN ?_ _ | refine blk_drew ?_ | refine blk_alloc ?_ _)); refine blk_far ?_ NB144_206.out _; (with_reducible repeat (first | refine blk_drewN ?_ _ | refine blk_drew ?_ | refine blk_alloc ?_ _)); refine blk_far ?_ NB144_206.out _; (with_reducible repeat (first | refine blk_drewN ?_ _ | refine blk_drew ?_ | refine blk_alloc ?_ _)); refine blk_far ?_ NB144_206.out _; (with_reducible repeat (first | refine blk_drewN ?_ _ | refine blk_drew ?_ | refine blk_alloc ?_ _)); refine blk_far ?_ NB144_206.out _; (with_reducible repeat (first | refine blk_drewN ?_ _ | refine blk_drew ?_ | refine blk_alloc ?_ _)); exact BK144.out) Try.underlying36 rfl (by kernel_rfl)) rfl ?_
         exact ⟨by first | rfl | (simp [errW_none, errW_some] <;> rfl) | (simp [*, errW_none, errW_some] <;> rfl), by repeat (first | (with_reducible first | exact HB.out | apply below_alloc | apply pw_below_drewN | apply below_drew1 | refine below_set ?_ (IsS77.ge HI163.out) | refine below_set ?_ GE144.out | refine below_set ?_ GE206.out) | exact HB.out)⟩
       rw [if_neg c11] at H
       exact absurd H (by simp)
     rw [if_neg c10] at H
     exact absurd H (by simp)
   rw [if_neg c9] at H
   have c9b0 : decide (x15_1 < (a0.size : Int)) = false := decide_eq_false c9
   clear c9; simp only [Option.some.injEq, Prod.mk.injEq] at H; obtain ⟨rfl, rfl, rfl, rfl, rfl, rfl⟩ := H; have hnb34 := NB144_163.out; have hnc34 := NB163_144.out
   have hcz35_0 : wr.cell? ⟨gb144, 0, none⟩ = some (.int .i64 x145000_1) := (blk_cell BK144.out 0).trans rfl
   have hcz35_1 : wr.cell? ⟨gb144, 1, none⟩ = some (.int .i64 x145001_1) := (blk_cell BK144.out 1).trans rfl
   have hcz35_2 : wr.cell? ⟨gb144, 2, none⟩ = some (.int .i64 x145002_1) := (blk_cell BK144.out 2).trans rfl
   have hcz35_3 : wr.cell? ⟨gb144, 3, none⟩ = some (.int .i64 x145003_1) := (blk_cell BK144.out 3).trans rfl
   have hfz35_0 := blk_frozen BK144.out 0; have hfz35_1 := blk_frozen BK144.out 1; have hfz35_2 := blk_frozen BK144.out 2; have hfz35_3 := blk_frozen BK144.out 3
   go_wp2
   refine bodyPost_ret (results_ctt rfl _ _ gb144 36 #[.int .i64 0, .int .i64 0, .int .i64 0, .int .i64 0] (0, 0) _ rfl (by (with_reducible repeat (first | refine blk_drewN ?_ _ | refine blk_drew ?_ | refine blk_alloc ?_ _)); refine blk_put (cs := #[.int .i64 0, .int .i64 0, .int .i64 0, .int .i64 x145003_1]) ?_ 3 _ rfl; (with_reducible repeat (first | refine blk_drewN ?_ _ | refine blk_drew ?_ | refine blk_alloc ?_ _)); refine blk_put (cs := #[.int .i64 0, .int .i64 0, .int .i64 x145002_1, .int .i64 x145003_1]) ?_ 2 _ rfl; (with_reducible repeat (first | refine blk_drewN ?_ _ | refine blk_drew ?_ | refine blk_alloc ?_ _)); refine blk_put (cs := #[.int .i64 0, .int .i64 x145001_1, .int .i64 x145002_1, .int .i64 x145003_1]) ?_ 1 _ rfl; (with_reducible repeat (first | refine blk_drewN ?_ _ | refine blk_drew ?_ | refine blk_alloc ?_ _)); refine blk_put (cs := #[.int .i64 x145000_1, .int .i64 x145001_1, .int .i64 x145002_1, .int .i64 x145003_1]) ?_ 0 _ rfl; (with_reducible repeat (first | refine blk_drewN ?_ _ | refine blk_drew ?_ | refine blk_alloc ?_ _)); exact BK144.out) Try.underlying36 rfl (by kernel_rfl)) rfl ?_
   exact ⟨by first | rfl | (simp [errW_none, errW_some] <;> rfl) | (simp [*, errW_none, errW_some] <;> rfl), by repeat (first | (with_reducible first | exact HB.out | apply below_alloc | apply pw_below_drewN | apply below_drew1 | refine below_set ?_ (IsS77.ge HI163.out) | refine below_set ?_ GE144.out) | exact HB.out)⟩


/-! ### head_Format: function 22 -/
def head_Format.f (a0_0 : Int) (a0_1 : Int) (a0_2 : Int) (a0_3 : Int) : Option (Int × Int) := if (Int.tmod a0_0 3) = 0 then (some (3, a0_3)) else (some (1, a0_3))
set_option maxHeartbeats 8000000 in
set_option maxRecDepth 100000 in
theorem head_Format.calls (a0_0 : Int) (a0_1 : Int) (a0_2 : Int) (a0_3 : Int) (r1 : Int) (r2 : Int) (w : World) (h : head_Format.f a0_0 a0_1 a0_2 a0_3 = some (r1, r2)) :
 Calls Try.prog 22 #[.agg #[.int .i64 a0_0, .int .i64 a0_1, .int .i64 a0_2, .int .i64 a0_3]] w fun e w' => e = .returned (.agg #[.int .i64 r1, .int .i64 r2]) ∧ Below w.heap.size w w' := by
 have hu36 := Try.underlying36
 have hu52 := Try.underlying52
 have HB := Aside0.mk (Below.refl w.heap.size w)
 have H : (if (Int.tmod a0_0 3) = 0 then (some (3, a0_3)) else (some (1, a0_3))) = some (r1, r2) := h
 clear h
 by_cases c2 : (Int.tmod a0_0 3) = 0
 · rw [if_pos c2] at H
   have c2b0 : ((Int.tmod a0_0 3) == 0) = true := beq_iff_eq.mpr c2
   have c2b1 : ((Int.tmod a0_0 3) != 0) = false := bne_eq_false_iff_eq.mpr c2
   clear c2; simp only [Option.some.injEq, Prod.mk.injEq] at H; obtain ⟨rfl, rfl⟩ := H
   go_enter Try.func22, Try.ntmps22
   go_wp2_with (first | ((with_reducible refine gate_dst (N := 1) rfl ?_); refine box_event ?hg (N := 1) ?hd (cs := #[.int .i64 a0_0, .int .i64 a0_1, .int .i64 a0_2, .int .i64 a0_3]) (t := 36) ?hr ?_; (case hd => rfl); (case hg => rfl); (case hr => first | (go_simp; done) | (go_simp; rfl)); intro gb207 hg w3 hbox hb; have BK207 := Aside0.mk (hbox); have GW207 := Aside0.mk ((by rw [hg]; exact (below_size bp_) : w.heap.size ≤ gb207)); have GE207 := Aside0.mk ((by rw [hg]; exact (below_size bp_) : w.heap.size ≤ gb207)); replace HB := Aside0.mk (below_step bp_ hb); clear hb hbox hg) | ((with_reducible refine gate_dst (N := 2) rfl ?_); refine box_event ?hg (N := 2) ?hd (cs := #[.int .i64 0, .int .i64 0]) (t := 52) ?hr ?_; (case hd => rfl); (case hg => rfl); (case hr => first | (go_simp; done) | (go_simp; rfl)); intro gb208 hg w4 hbox hb; have BK208 := Aside0.mk (hbox); have GW208 := Aside0.mk ((by rw [hg]; exact (below_size bp_) : w.heap.size ≤ gb208)); have GE208 := Aside0.mk ((by rw [hg]; exact (below_size bp_) : w.heap.size ≤ gb208)); replace HB := Aside0.mk (below_step bp_ hb); have NB207_208 := Aside0.mk ((nlt_ hg (hp_ BK207.out))); have NB208_207 := Aside0.mk ((ngt_ hg (hp_ BK207.out))); replace BK207 := Aside0.mk (blk_below (hp_ BK207.out) hb); clear hb hbox hg; have hnb5 := NB207_208.out; have hnc5 := NB208_207.out; have hcz6_0 : w4.cell? ⟨gb207, 0, none⟩ = some (.int .i64 a0_0) := (blk_cell BK207.out 0).trans rfl; have hcz6_1 : w4.cell? ⟨gb207, 1, none⟩ = some (.int .i64 a0_1) := (blk_cell BK207.out 1).trans rfl; have hcz6_2 : w4.cell? ⟨gb207, 2, none⟩ = some (.int .i64 a0_2) := (blk_cell BK207.out 2).trans rfl; have hcz6_3 : w4.cell? ⟨gb207, 3, none⟩ = some (.int .i64 a0_3) := (blk_cell BK207.out 3).trans rfl; have hfz6_0 := blk_frozen BK207.out 0; have hfz6_1 := blk_frozen BK207.out 1; have hfz6_2 := blk_frozen BK207.out 2; have hfz6_3 := blk_frozen BK207.out 3; have hcz7_0 : w4.cell? ⟨gb208, 0, none⟩ = some (.int .i64 0) := (blk_cell BK208.out 0).trans rfl; have hcz7_1 : w4.cell? ⟨gb208, 1, none⟩ = some (.int .i64 0) := (blk_cell BK208.out 1).trans rfl; have hfz7_0 := blk_frozen BK208.out 0; have hfz7_1 := blk_frozen BK208.out 1))
   refine bodyPost_ret (results_cell_row rfl _ _ gb208 52 #[.int .i64 3, .int .i64 a0_3] (0, 0) _ rfl (by (with_reducible repeat (first | refine blk_drewN ?_ _ | refine blk_drew ?_ | refine blk_alloc ?_ _)); refine blk_put (cs := #[.int .i64 3, .int .i64 0]) ?_ 1 _ rfl; (with_reducible repeat (first | refine blk_drewN ?_ _ | refine blk_drew ?_ | refine blk_alloc ?_ _)); refine blk_put (cs := #[.int .i64 0, .int .i64 0]) ?_ 0 _ rfl; (with_reducible repeat (first | refine blk_drewN ?_ _ | refine blk_drew ?_ | refine blk_alloc ?_ _)); exact BK208.out) Try.underlying52 rfl (by kernel_rfl)) rfl ?_
   exact ⟨by first | rfl | (simp [errW_none, errW_some] <;> rfl) | (simp [*, errW_none, errW_some] <;> rfl), bp_⟩
 rw [if_neg c2] at H
 have c2b0 : ((Int.tmod a0_0 3) == 0) = false := beq_eq_false_iff_ne.mpr c2
 have c2b1 : ((Int.tmod a0_0 3) != 0) = true := bne_iff_ne.mpr c2
 simp only [Option.some.injEq, Prod.mk.injEq] at H
 obtain ⟨rfl, rfl⟩ := H
 go_enter Try.func22, Try.ntmps22
 go_wp2_with (first | ((with_reducible refine gate_dst (N := 1) rfl ?_); refine box_event ?hg (N := 1) ?hd (cs := #[.int .i64 a0_0, .int .i64 a0_1, .int .i64 a0_2, .int .i64 a0_3]) (t := 36) ?hr ?_; (case hd => rfl); (case hg => rfl); (case hr => first | (go_simp; done) | (go_simp; rfl)); intro gb207 hg w8 hbox hb; have BK207 := Aside0.mk (hbox); have GW207 := Aside0.mk ((by rw [hg]; exact (below_size bp_) : w.heap.size ≤ gb207)); have GE207 := Aside0.mk ((by rw [hg]; exact (below_size bp_) : w.heap.size ≤ gb207)); replace HB := Aside0.mk (below_step bp_ hb); clear hb hbox hg) | ((with_reducible refine gate_dst (N := 2) rfl ?_); refine box_event ?hg (N := 2) ?hd (cs := #[.int .i64 0, .int .i64 0]) (t := 52) ?hr ?_; (case hd => rfl); (case hg => rfl); (case hr => first | (go_simp; done) | (go_simp; rfl)); intro gb208 hg w9 hbox hb; have BK208 := Aside0.mk (hbox); have GW208 := Aside0.mk ((by rw [hg]; exact (below_size bp_) : w.heap.size ≤ gb208)); have GE208 := Aside0.mk ((by rw [hg]; exact (below_size bp_) : w.heap.size ≤ gb208)); replace HB := Aside0.mk (below_step bp_ hb); have NB207_208 := Aside0.mk ((nlt_ hg (hp_ BK207.out))); have NB208_207 := Aside0.mk ((ngt_ hg (hp_ BK207.out))); replace BK207 := Aside0.mk (blk_below (hp_ BK207.out) hb); clear hb hbox hg; have hnb10 := NB207_208.out; have hnc10 := NB208_207.out; have hcz11_0 : w9.cell? ⟨gb207, 0, none⟩ = some (.int .i64 a0_0) := (blk_cell BK207.out 0).trans rfl; have hcz11_1 : w9.cell? ⟨gb207, 1, none⟩ = some (.int .i64 a0_1) := (blk_cell BK207.out 1).trans rfl; have hcz11_2 : w9.cell? ⟨gb207, 2, none⟩ = some (.int .i64 a0_2) := (blk_cell BK207.out 2).trans rfl; have hcz11_3 : w9.cell? ⟨gb207, 3, none⟩ = some (.int .i64 a0_3) := (blk_cell BK207.out 3).trans rfl; have hfz11_0 := blk_frozen BK207.out 0; have hfz11_1 := blk_frozen BK207.out 1; have hfz11_2 := blk_frozen BK207.out 2; have hfz11_3 := blk_frozen BK207.out 3; have hcz12_0 : w9.cell? ⟨gb208, 0, none⟩ = some (.int .i64 0) := (blk_cell BK208.out 0).trans rfl; have hcz12_1 : w9.cell? ⟨gb208, 1, none⟩ = some (.int .i64 0) := (blk_cell BK208.out 1).trans rfl; have hfz12_0 := blk_frozen BK208.out 0; have hfz12_1 := blk_frozen BK208.out 1))
 refine bodyPost_ret (results_cell_row rfl _ _ gb208 52 #[.int .i64 1, .int .i64 a0_3] (0, 0) _ rfl (by (with_reducible repeat (first | refine blk_drewN ?_ _ | refine blk_drew ?_ | refine blk_alloc ?_ _)); refine blk_put (cs := #[.int .i64 1, .int .i64 0]) ?_ 1 _ rfl; (with_reducible repeat (first | refine blk_drewN ?_ _ | refine blk_drew ?_ | refine blk_alloc ?_ _)); refine blk_put (cs := #[.int .i64 0, .int .i64 0]) ?_ 0 _ rfl; (with_reducible repeat (first | refine blk_drewN ?_ _ | refine blk_drew ?_ | refine blk_alloc ?_ _)); exact BK208.out) Try.underlying52 rfl (by kernel_rfl)) rfl ?_
 exact ⟨by first | rfl | (simp [errW_none, errW_some] <;> rfl) | (simp [*, errW_none, errW_some] <;> rfl), bp_⟩

/-! ### head_Raw: function 27 -/
def head_Raw.f (a0_0 : Int) (a0_1 : Int) (a0_2 : Int) (a0_3 : Int) : Option (Bool) := if a0_0 ≥ 4 then (some (decide (a0_0 ≤ 6))) else (some false)
set_option maxHeartbeats 8000000 in
set_option maxRecDepth 100000 in
theorem head_Raw.calls (a0_0 : Int) (a0_1 : Int) (a0_2 : Int) (a0_3 : Int) (r : Bool) (w : World) (h : head_Raw.f a0_0 a0_1 a0_2 a0_3 = some r) :
    Calls Try.prog 27 #[.agg #[.int .i64 a0_0, .int .i64 a0_1, .int .i64 a0_2, .int .i64 a0_3]] w fun e w' => e = .returned (.bool r) ∧ Below w.heap.size w w' := by
  have hu36 := Try.underlying36
  have HB := Aside0.mk (Below.refl w.heap.size w)
  have H : (if a0_0 ≥ 4 then (some (decide (a0_0 ≤ 6))) else (some false)) = some r := h
  clear h
  by_cases c2 : a0_0 ≥ 4
  · rw [if_pos c2] at H
    have c2b0 : decide (4 ≤ a0_0) = true := decide_eq_true c2
    clear c2
    obtain rfl := Option.some.inj H
    go_enter Try.func27, Try.ntmps27
    go_wp2_with (first | ((with_reducible refine gate_dst (N := 1) rfl ?_); refine box_event ?hg (N := 1) ?hd (cs := #[.int .i64 a0_0, .int .i64 a0_1, .int .i64 a0_2, .int .i64 a0_3]) (t := 36) ?hr ?_; (case hd => rfl); (case hg => rfl); (case hr => first | (go_simp; done) | (go_simp; rfl)); intro gb209 hg w3 hbox hb; have n0_ := Aside0.mk (below_step (by repeat (first | (with_reducible first | exact HB.out | apply below_alloc | apply pw_below_drewN | apply below_drew1) | exact HB.out)) hb); have n1_ := Aside0.mk (hbox); have n2_ := Aside0.mk ((by rw [hg]; exact (below_size (by repeat (first | (with_reducible first | exact HB.out | apply below_alloc | apply pw_below_drewN | apply below_drew1) | exact HB.out))) : w.heap.size ≤ gb209)); have n3_ := Aside0.mk ((by rw [hg]; exact (below_size (by repeat (first | (with_reducible first | exact HB.out | apply below_alloc | apply pw_below_drewN | apply below_drew1) | exact HB.out))) : w.heap.size ≤ gb209)); clear HB; have HB := n0_; have BK209 := n1_; have GW209 := n2_; have GE209 := n3_; clear n0_ n1_ n2_ n3_; clear hb hbox hg; have hcz4_0 : w3.cell? ⟨gb209, 0, none⟩ = some (.int .i64 a0_0) := (blk_cell BK209.out 0).trans rfl; have hcz4_1 : w3.cell? ⟨gb209, 1, none⟩ = some (.int .i64 a0_1) := (blk_cell BK209.out 1).trans rfl; have hcz4_2 : w3.cell? ⟨gb209, 2, none⟩ = some (.int .i64 a0_2) := (blk_cell BK209.out 2).trans rfl; have hcz4_3 : w3.cell? ⟨gb209, 3, none⟩ = some (.int .i64 a0_3) := (blk_cell BK209.out 3).trans rfl; have hfz4_0 := blk_frozen BK209.out 0; have hfz4_1 := blk_frozen BK209.out 1; have hfz4_2 := blk_frozen BK209.out 2; have hfz4_3 := blk_frozen BK209.out 3))
    go_ret
    exact ⟨by first | rfl | (simp [errW_none, errW_some] <;> rfl) | (simp [*, errW_none, errW_some] <;> rfl), by repeat (first | (with_reducible first | exact HB.out | apply below_alloc | apply pw_below_drewN | apply below_drew1 | refine below_set ?_ GE209.out) | exact HB.out)⟩
  rw [if_neg c2] at H
  have c2b0 : decide (4 ≤ a0_0) = false := decide_eq_false c2
  clear c2
  obtain rfl := Option.some.inj H
  go_enter Try.func27, Try.ntmps27
  go_wp2_with (first | ((with_reducible refine gate_dst (N := 1) rfl ?_); refine box_event ?hg (N := 1) ?hd (cs := #[.int .i64 a0_0, .int .i64 a0_1, .int .i64 a0_2, .int .i64 a0_3]) (t := 36) ?hr ?_; (case hd => rfl); (case hg => rfl); (case hr => first | (go_simp; done) | (go_simp; rfl)); intro gb209 hg w5 hbox hb; have n0_ := Aside0.mk (below_step (by repeat (first | (with_reducible first | exact HB.out | apply below_alloc | apply pw_below_drewN | apply below_drew1) | exact HB.out)) hb); have n1_ := Aside0.mk (hbox); have n2_ := Aside0.mk ((by rw [hg]; exact (below_size (by repeat (first | (with_reducible first | exact HB.out | apply below_alloc | apply pw_below_drewN | apply below_drew1) | exact HB.out))) : w.heap.size ≤ gb209)); have n3_ := Aside0.mk ((by rw [hg]; exact (below_size (by repeat (first | (with_reducible first | exact HB.out | apply below_alloc | apply pw_below_drewN | apply below_drew1) | exact HB.out))) : w.heap.size ≤ gb209)); clear HB; have HB := n0_; have BK209 := n1_; have GW209 := n2_; have GE209 := n3_; clear n0_ n1_ n2_ n3_; clear hb hbox hg; have hcz6_0 : w5.cell? ⟨gb209, 0, none⟩ = some (.int .i64 a0_0) := (blk_cell BK209.out 0).trans rfl; have hcz6_1 : w5.cell? ⟨gb209, 1, none⟩ = some (.int .i64 a0_1) := (blk_cell BK209.out 1).trans rfl; have hcz6_2 : w5.cell? ⟨gb209, 2, none⟩ = some (.int .i64 a0_2) := (blk_cell BK209.out 2).trans rfl; have hcz6_3 : w5.cell? ⟨gb209, 3, none⟩ = some (.int .i64 a0_3) := (blk_cell BK209.out 3).trans rfl; have hfz6_0 := blk_frozen BK209.out 0; have hfz6_1 := blk_frozen BK209.out 1; have hfz6_2 := blk_frozen BK209.out 2; have hfz6_3 := blk_frozen BK209.out 3))
  go_ret
  exact ⟨by first | rfl | (simp [errW_none, errW_some] <;> rfl) | (simp [*, errW_none, errW_some] <;> rfl), by repeat (first | (with_reducible first | exact HB.out | apply below_alloc | apply pw_below_drewN | apply below_drew1 | refine below_set ?_ GE209.out) | exact HB.out)⟩


/-! ### head_Size: function 25 -/
def head_Size.f (a0_0 : Int) (a0_1 : Int) (a0_2 : Int) (a0_3 : Int) : Option (Int) := (head_Raw.f a0_0 a0_1 a0_2 a0_3).bind fun t211 => (if t211 = true then (if a0_0 = 4 then (some (wrap64 (a0_2 * (wrap64 (Int.tdiv (wrap64 (a0_1 + 7)) 8))))) else (if a0_3 > 255 then ((head_Format.f a0_0 a0_1 a0_2 a0_3).bind fun bt212 => (some (wrap64 ((wrap64 ((wrap64 (2 * a0_1)) * a0_2)) * bt212.1)))) else ((head_Format.f a0_0 a0_1 a0_2 a0_3).bind fun bt214 => (some (wrap64 ((wrap64 (a0_1 * a0_2)) * bt214.1)))))) else (some 0))
def head_Size.T6 : Bool × List (List Nat × List Nat) := (true, [([], []), ([0], [0]), ([1], [1]), ([], []), ([3], [3]), ([2, 4], [2, 4]), ([], []), ([6], [6]), ([7], [7]), ([5, 8], [5, 8]), ([9, 7, 0, 1, 2, 3, 4, 5, 6, 7, 8, 9], [9])])
def head_Size.B6 : List Nat := [0, 1, 3, 0, 8, 31, 0, 64, 192, 511, 1023]
theorem head_Size.tab6 : rtab .any (opsOf Try.f25 6) = head_Size.T6 := by kernel_rfl
theorem head_Size.bits6 : waitsOk head_Size.T6.2 head_Size.B6 = true := by kernel_rfl
def head_Size.T7 : Bool × List (List Nat × List Nat) := (true, [([], []), ([0], [0]), ([], []), ([2], [2]), ([1, 3], [1, 3]), ([], []), ([5], [5]), ([6], [6]), ([4, 7], [4, 7]), ([8, 6, 0, 1, 2, 3, 4, 5, 6, 7, 8], [8])])
def head_Size.B7 : List Nat := [0, 1, 0, 4, 15, 0, 32, 96, 255, 511]
theorem head_Size.tab7 : rtab .any (opsOf Try.f25 7) = head_Size.T7 := by kernel_rfl
theorem head_Size.bits7 : waitsOk head_Size.T7.2 head_Size.B7 = true := by kernel_rfl
set_option maxHeartbeats 8000000 in
set_option maxRecDepth 100000 in
theorem head_Size.calls (a0_0 : Int) (a0_1 : Int) (a0_2 : Int) (a0_3 : Int) (r : Int) (w : World) (h : head_Size.f a0_0 a0_1 a0_2 a0_3 = some r) :
 Calls Try.prog 25 #[.agg #[.int .i64 a0_0, .int .i64 a0_1, .int .i64 a0_2, .int .i64 a0_3]] w fun e w' => e = .returned (.int .i64 r) ∧ Below w.heap.size w w' := by
 have hu36 := Try.underlying36
 have hu52 := Try.underlying52
 have HB := Aside0.mk (Below.refl w.heap.size w)
 have H : ((head_Raw.f a0_0 a0_1 a0_2 a0_3).bind fun t211 => (if t211 = true then (if a0_0 = 4 then (some (wrap64 (a0_2 * (wrap64 (Int.tdiv (wrap64 (a0_1 + 7)) 8))))) else (if a0_3 > 255 then ((head_Format.f a0_0 a0_1 a0_2 a0_3).bind fun bt212 => (some (wrap64 ((wrap64 ((wrap64 (2 * a0_1)) * a0_2)) * bt212.1)))) else ((head_Format.f a0_0 a0_1 a0_2 a0_3).bind fun bt214 => (some (wrap64 ((wrap64 (a0_1 * a0_2)) * bt214.1)))))) else (some 0))) = some r := h
 clear h
 replace H := Option.bind_eq_some_iff.mp H
 obtain ⟨t211, A20, H⟩ := H
 replace H : (if t211 = true then (if a0_0 = 4 then (some (wrap64 (a0_2 * (wrap64 (Int.tdiv (wrap64 (a0_1 + 7)) 8))))) else (if a0_3 > 255 then ((head_Format.f a0_0 a0_1 a0_2 a0_3).bind fun bt212 => (some (wrap64 ((wrap64 ((wrap64 (2 * a0_1)) * a0_2)) * bt212.1)))) else ((head_Format.f a0_0 a0_1 a0_2 a0_3).bind fun bt214 => (some (wrap64 ((wrap64 (a0_1 * a0_2)) * bt214.1)))))) else (some 0)) = some r := H
 have A2 := Aside0.mk A20
 clear A20
 by_cases c3 : t211 = true
 · subst c3
   have H1 : (if a0_0 = 4 then (some (wrap64 (a0_2 * (wrap64 (Int.tdiv (wrap64 (a0_1 + 7)) 8))))) else (if a0_3 > 255 then ((head_Format.f a0_0 a0_1 a0_2 a0_3).bind fun bt212 => (some (wrap64 ((wrap64 ((wrap64 (2 * a0_1)) * a0_2)) * bt212.1)))) else ((head_Format.f a0_0 a0_1 a0_2 a0_3).bind fun bt214 => (some (wrap64 ((wrap64 (a0_1 * a0_2)) * bt214.1)))))) = some r := by rw [if_pos rfl] at H; exact H
   clear H; have H := H1; clear H1
   by_cases c4 : a0_0 = 4
   · rw [if_pos c4] at H
     have c4b0 : (a0_0 == 4) = true := beq_iff_eq.mpr c4
     have c4b1 : (a0_0 != 4) = false := bne_eq_false_iff_eq.mpr c4
     clear c4
     obtain rfl := Option.some.inj H
     go_enter Try.func25, Try.ntmps25
     go_wp2_with (first | ((with_reducible refine gate_dst (N := 1) rfl ?_); refine box_event ?hg (N := 1) ?hd (cs := #[.int .i64 a0_0, .int .i64 a0_1, .int .i64 a0_2, .int .i64 a0_3]) (t := 36) ?hr ?_; (case hd => rfl); (case hg => rfl); (case hr => first | (go_simp; done) | (go_simp; rfl)); intro gb210 hg w5 hbox hb; have BK210 := Aside0.mk (hbox); have GW210 := Aside0.mk ((by rw [hg]; exact (below_size bp_) : w.heap.size ≤ gb210)); have GE210 := Aside0.mk ((by rw [hg]; exact (below_size bp_) : w.heap.size ≤ gb210)); replace HB := Aside0.mk (below_step bp_ hb); clear hb hbox hg; have hcz6_0 : w5.cell? ⟨gb210, 0, none⟩ = some (.int .i64 a0_0) := (blk_cell BK210.out 0).trans rfl; have hcz6_1 : w5.cell? ⟨gb210, 1, none⟩ = some (.int .i64 a0_1) := (blk_cell BK210.out 1).trans rfl; have hcz6_2 : w5.cell? ⟨gb210, 2, none⟩ = some (.int .i64 a0_2) := (blk_cell BK210.out 2).trans rfl; have hcz6_3 : w5.cell? ⟨gb210, 3, none⟩ = some (.int .i64 a0_3) := (blk_cell BK210.out 3).trans rfl; have hfz6_0 := blk_frozen BK210.out 0; have hfz6_1 := blk_frozen BK210.out 1; have hfz6_2 := blk_frozen BK210.out 2; have hfz6_3 := blk_frozen BK210.out 3) | ((with_reducible refine gate_callee (f := 27) rfl ?_); refine goQ_ (some 5) Try.func27 #[.agg #[.int .i64 a0_0, .int .i64 a0_1, .int .i64 a0_2, .int .i64 a0_3]] ?_; (with_reducible refine (head_Raw.calls a0_0 a0_1 a0_2 a0_3 true _ A2.out).mono ?_); rintro e w7 ⟨rfl, hb⟩; refine ⟨_, rfl, ?_⟩; replace BK210 := Aside0.mk (blk_below (hp_ BK210.out) hb); replace HB := Aside0.mk (below_step bp_ hb); (try clear hb); (try clear hb2); (try clear hk); (try clear hi); have hcz8_0 : w7.cell? ⟨gb210, 0, none⟩ = some (.int .i64 a0_0) := (blk_cell BK210.out 0).trans rfl; have hcz8_1 : w7.cell? ⟨gb210, 1, none⟩ = some (.int .i64 a0_1) := (blk_cell BK210.out 1).trans rfl; have hcz8_2 : w7.cell? ⟨gb210, 2, none⟩ = some (.int .i64 a0_2) := (blk_cell BK210.out 2).trans rfl; have hcz8_3 : w7.cell? ⟨gb210, 3, none⟩ = some (.int .i64 a0_3) := (blk_cell BK210.out 3).trans rfl; have hfz8_0 := blk_frozen BK210.out 0; have hfz8_1 := blk_frozen BK210.out 1; have hfz8_2 := blk_frozen BK210.out 2; have hfz8_3 := blk_frozen BK210.out 3))
     go_ret
     exact ⟨by first | rfl | (simp [errW_none, errW_some] <;> rfl) | (simp [*, errW_none, errW_some] <;> rfl), bp_⟩
   rw [if_neg c4] at H
   have c4b0 : (a0_0 == 4) = false := beq_eq_false_iff_ne.mpr c4
   have c4b1 : (a0_0 != 4) = true := bne_iff_ne.mpr c4
   by_cases c9 : a0_3 > 255
   · rw [if_pos c9] at H
     have c9b0 : decide (255 < a0_3) = true := decide_eq_true c9
     clear c9; replace H := Option.bind_eq_some_iff.mp H; obtain ⟨⟨t212, t213⟩, A100, H⟩ := H
     replace H : (some (wrap64 ((wrap64 ((wrap64 (2 * a0_1)) * a0_2)) * t212))) = some r := H
     have A10 := Aside0.mk A100; clear A100
     obtain rfl := Option.some.inj H
     go_enter Try.func25, Try.ntmps25
     try go_wp2_with (first | ((with_reducible refine gate_dst (N := 1) rfl ?_); refine box_event ?hg (N := 1) ?hd (cs := #[.int .i64 a0_0, .int .i64 a0_1, .int .i64 a0_2, .int .i64 a0_3]) (t := 36) ?hr ?_; (case hd => rfl); (case hg => rfl); (case hr => first | (go_simp; done) | (go_simp; rfl)); intro gb210 hg w11 hbox hb; have BK210 := Aside0.mk (hbox); have GW210 := Aside0.mk ((by rw [hg]; exact (below_size bp_) : w.heap.size ≤ gb210)); have GE210 := Aside0.mk ((by rw [hg]; exact (below_size bp_) : w.heap.size ≤ gb210)); replace HB := Aside0.mk (below_step bp_ hb); clear hb hbox hg; have hcz12_0 : w11.cell? ⟨gb210, 0, none⟩ = some (.int .i64 a0_0) := (blk_cell BK210.out 0).trans rfl; have hcz12_1 : w11.cell? ⟨gb210, 1, none⟩ = some (.int .i64 a0_1) := (blk_cell BK210.out 1).trans rfl; have hcz12_2 : w11.cell? ⟨gb210, 2, none⟩ = some (.int .i64 a0_2) := (blk_cell BK210.out 2).trans rfl; have hcz12_3 : w11.cell? ⟨gb210, 3, none⟩ = some (.int .i64 a0_3) := (blk_cell BK210.out 3).trans rfl; have hfz12_0 := blk_frozen BK210.out 0; have hfz12_1 := blk_frozen BK210.out 1; have hfz12_2 := blk_frozen BK210.out 2; have hfz12_3 := blk_frozen BK210.out 3) | ((with_reducible refine gate_callee (f := 27) rfl ?_); refine goQ_ (some 5) Try.func27 #[.agg #[.int .i64 a0_0, .int .i64 a0_1, .int .i64 a0_2, .int .i64 a0_3]] ?_; (with_reducible refine (head_Raw.calls a0_0 a0_1 a0_2 a0_3 true _ A2.out).mono ?_); rintro e w13 ⟨rfl, hb⟩; refine ⟨_, rfl, ?_⟩; replace BK210 := Aside0.mk (blk_below (hp_ BK210.out) hb); replace HB := Aside0.mk (below_step bp_ hb); (try clear hb); (try clear hb2); (try clear hk); (try clear hi); have hcz14_0 : w13.cell? ⟨gb210, 0, none⟩ = some (.int .i64 a0_0) := (blk_cell BK210.out 0).trans rfl; have hcz14_1 : w13.cell? ⟨gb210, 1, none⟩ = some (.int .i64 a0_1) := (blk_cell BK210.out 1).trans rfl; have hcz14_2 : w13.cell? ⟨gb210, 2, none⟩ = some (.int .i64 a0_2) := (blk_cell BK210.out 2).trans rfl; have hcz14_3 : w13.cell? ⟨gb210, 3, none⟩ = some (.int .i64 a0_3) := (blk_cell BK210.out 3).trans rfl; have hfz14_0 := blk_frozen BK210.out 0; have hfz14_1 := blk_frozen BK210.out 1; have hfz14_2 := blk_frozen BK210.out 2; have hfz14_3 := blk_frozen BK210.out 3))
     replace BK210 := Aside0.mk (blk_drew BK210.out); replace HB := Aside0.mk (below_drew1 HB.out); refine start_ (n := 11) (S := fun w' => w'.cell? ⟨gb210, 0, none⟩ = some (.int .i64 a0_0) ∧ w'.cell? ⟨gb210, 1, none⟩ = some (.int .i64 a0_1) ∧ w'.cell? ⟨gb210, 2, none⟩ = some (.int .i64 a0_2) ∧ w'.cell? ⟨gb210, 3, none⟩ = some (.int .i64 a0_3)) (ds := []) #[false, false, false, false, false, false, false, false, false, false, false] (by kernel_rfl) rfl rfl ⟨(blk_cell BK210.out 0).trans rfl, (blk_cell BK210.out 1).trans rfl, (blk_cell BK210.out 2).trans rfl, (blk_cell BK210.out 3).trans rfl⟩ (fun hHeld => ?_); refine with_tabW head_Size.tab6 head_Size.bits6 (fun HT_ HW_ => ?_)
     generalize w13.drew = w15 at BK210 HB hHeld ⊢
     refine pur_ (i := 0) (N := some 22) #[true, false, false, false, false, false, false, false, false, false, false] (any_of HT_.out (by kernel_rfl)) ?_; refine pur_ (i := 3) (N := some 25) #[true, false, false, true, false, false, false, false, false, false, false] (any_of HT_.out (by kernel_rfl)) ?_; refine take_ (i := 1) (N := some 23) (v := ?_) (a' := ?_) #[true, true, false, true, false, false, false, false, false, false, false] rfl rfl (take_ofW HT_.out HW_.out (by kernel_rfl)) (fun _ _ _ h => h) (Or.inl ⟨by rfl, ?_⟩) hHeld ?_ ?_; rotate_left
     · rintro w' ⟨s0, s1, s2, s3⟩
       go_simp; with_reducible rfl
     rotate_left
     · simp only [Act.put, List.setIfInBounds_toArray, List.set_cons_zero, List.set_cons_succ, i64_w, i32_w]; rfl
     refine pur_ (i := 2) (N := some 24) #[true, true, true, true, false, false, false, false, false, false, false] (any_of HT_.out (by kernel_rfl)) ?_; refine take_ (i := 4) (N := some 26) (v := ?_) (a' := ?_) #[true, true, true, true, true, false, false, false, false, false, false] rfl rfl (take_ofW HT_.out HW_.out (by kernel_rfl)) (fun _ _ _ h => h) (Or.inl ⟨by rfl, ?_⟩) hHeld ?_ ?_; rotate_left
     · rintro w' ⟨s0, s1, s2, s3⟩
       go_simp; with_reducible rfl
     rotate_left
     · simp only [Act.put, List.setIfInBounds_toArray, List.set_cons_zero, List.set_cons_succ, i64_w, i32_w]; rfl
     refine pur_ (i := 5) (N := some 27) #[true, true, true, true, true, true, false, false, false, false, false] (any_of HT_.out (by kernel_rfl)) ?_; refine take_ (i := 6) (N := some 28) (v := ?_) (a' := ?_) #[true, true, true, true, true, true, true, false, false, false, false] rfl rfl (take_ofW HT_.out HW_.out (by kernel_rfl)) (fun _ _ _ h => h) (Or.inl ⟨by rfl, ?_⟩) hHeld ?_ ?_; rotate_left
     · rintro w' ⟨s0, s1, s2, s3⟩
       go_simp; with_reducible rfl
     rotate_left
     · simp only [Act.put, List.setIfInBounds_toArray, List.set_cons_zero, List.set_cons_succ, i64_w, i32_w]; rfl
     refine one_ (i := 7) (N := some 29) #[true, true, true, true, true, true, true, true, false, false, false] rfl rfl (one_of HT_.out (by kernel_rfl)) (by decide) (fun K hK => ?_); refine goes_ Try.func22 (by kernel_rfl) rfl #[.agg #[.int .i64 a0_0, .int .i64 a0_1, .int .i64 a0_2, .int .i64 a0_3]] (by rfl) rfl rfl (by (try simp only [List.map_toArray, List.map_cons, List.map_nil]); first | done | rfl | (simp only [List.length_drop, List.length_take]; rfl)) ?_
     with_reducible refine (head_Format.calls a0_0 a0_1 a0_2 a0_3 t212 t213 _ A10.out).mono ?_
     rintro e w16 ⟨rfl, hb⟩
     refine ⟨_, rfl, ?_⟩; replace BK210 := Aside0.mk (blk_below (hp_ BK210.out) hb); replace HB := Aside0.mk (below_step bp_ hb)
     (try clear hb)
     (try clear hb2)
     (try clear hk)
     (try clear hi)
     refine hK.out _ _ ⟨(blk_cell BK210.out 0).trans rfl, (blk_cell BK210.out 1).trans rfl, (blk_cell BK210.out 2).trans rfl, (blk_cell BK210.out 3).trans rfl⟩ (fun hHeld => ?_); clear hK K; refine norm_ (a' := ?_) ?_ ?_; rotate_left
     · show Act.put _ (some 29) _ = _
       simp only [Act.put, List.setIfInBounds_toArray, List.set_cons_zero, List.set_cons_succ, i64_w, i32_w]; rfl
     refine pur_ (i := 8) (N := some 30) #[true, true, true, true, true, true, true, true, true, false, false] (any_of HT_.out (by kernel_rfl)) ?_; refine pur_ (i := 9) (N := some 31) #[true, true, true, true, true, true, true, true, true, true, false] (any_of HT_.out (by kernel_rfl)) ?_; refine pur_ (i := 10) (N := some 2) #[true, true, true, true, true, true, true, true, true, true, true] (any_of HT_.out (by kernel_rfl)) ?_; refine done_ (done_of HT_.out (by kernel_rfl)) ?_
     try go_wp2
     go_ret
     exact ⟨by first | rfl | (simp [errW_none, errW_some] <;> rfl) | (simp [*, errW_none, errW_some] <;> rfl), bp_⟩
   rw [if_neg c9] at H
   have c9b0 : decide (255 < a0_3) = false := decide_eq_false c9
   clear c9; replace H := Option.bind_eq_some_iff.mp H; obtain ⟨⟨t214, t215⟩, A170, H⟩ := H
   replace H : (some (wrap64 ((wrap64 (a0_1 * a0_2)) * t214))) = some r := H
   have A17 := Aside0.mk A170; clear A170
   obtain rfl := Option.some.inj H
   go_enter Try.func25, Try.ntmps25
   try go_wp2_with (first | ((with_reducible refine gate_dst (N := 1) rfl ?_); refine box_event ?hg (N := 1) ?hd (cs := #[.int .i64 a0_0, .int .i64 a0_1, .int .i64 a0_2, .int .i64 a0_3]) (t := 36) ?hr ?_; (case hd => rfl); (case hg => rfl); (case hr => first | (go_simp; done) | (go_simp; rfl)); intro gb210 hg w18 hbox hb; have BK210 := Aside0.mk (hbox); have GW210 := Aside0.mk ((by rw [hg]; exact (below_size bp_) : w.heap.size ≤ gb210)); have GE210 := Aside0.mk ((by rw [hg]; exact (below_size bp_) : w.heap.size ≤ gb210)); replace HB := Aside0.mk (below_step bp_ hb); clear hb hbox hg; have hcz19_0 : w18.cell? ⟨gb210, 0, none⟩ = some (.int .i64 a0_0) := (blk_cell BK210.out 0).trans rfl; have hcz19_1 : w18.cell? ⟨gb210, 1, none⟩ = some (.int .i64 a0_1) := (blk_cell BK210.out 1).trans rfl; have hcz19_2 : w18.cell? ⟨gb210, 2, none⟩ = some (.int .i64 a0_2) := (blk_cell BK210.out 2).trans rfl; have hcz19_3 : w18.cell? ⟨gb210, 3, none⟩ = some (.int .i64 a0_3) := (blk_cell BK210.out 3).trans rfl; have hfz19_0 := blk_frozen BK210.out 0; have hfz19_1 := blk_frozen BK210.out 1; have hfz19_2 := blk_frozen BK210.out 2; have hfz19_3 := blk_frozen BK210.out 3) | ((with_reducible refine gate_callee (f := 27) rfl ?_); refine goQ_ (some 5) Try.func27 #[.agg #[.int .i64 a0_0, .int .i64 a0_1, .int .i64 a0_2, .int .i64 a0_3]] ?_; (with_reducible refine (head_Raw.calls a0_0 a0_1 a0_2 a0_3 true _ A2.out).mono ?_); rintro e w20 ⟨rfl, hb⟩; refine ⟨_, rfl, ?_⟩; replace BK210 := Aside0.mk (blk_below (hp_ BK210.out) hb); replace HB := Aside0.mk (below_step bp_ hb); (try clear hb); (try clear hb2); (try clear hk); (try clear hi); have hcz21_0 : w20.cell? ⟨gb210, 0, none⟩ = some (.int .i64 a0_0) := (blk_cell BK210.out 0).trans rfl; have hcz21_1 : w20.cell? ⟨gb210, 1, none⟩ = some (.int .i64 a0_1) := (blk_cell BK210.out 1).trans rfl; have hcz21_2 : w20.cell? ⟨gb210, 2, none⟩ = some (.int .i64 a0_2) := (blk_cell BK210.out 2).trans rfl; have hcz21_3 : w20.cell? ⟨gb210, 3, none⟩ = some (.int .i64 a0_3) := (blk_cell BK210.out 3).trans rfl; have hfz21_0 := blk_frozen BK210.out 0; have hfz21_1 := blk_frozen BK210.out 1; have hfz21_2 := blk_frozen BK210.out 2; have hfz21_3 := blk_frozen BK210.out 3))
   replace BK210 := Aside0.mk (blk_drew BK210.out); replace HB := Aside0.mk (below_drew1 HB.out); refine start_ (n := 10) (S := fun w' => w'.cell? ⟨gb210, 0, none⟩ = some (.int .i64 a0_0) ∧ w'.cell? ⟨gb210, 1, none⟩ = some (.int .i64 a0_1) ∧ w'.cell? ⟨gb210, 2, none⟩ = some (.int .i64 a0_2) ∧ w'.cell? ⟨gb210, 3, none⟩ = some (.int .i64 a0_3)) (ds := []) #[false, false, false, false, false, false, false, false, false, false] (by kernel_rfl) rfl rfl ⟨(blk_cell BK210.out 0).trans rfl, (blk_cell BK210.out 1).trans rfl, (blk_cell BK210.out 2).trans rfl, (blk_cell BK210.out 3).trans rfl⟩ (fun hHeld => ?_); refine with_tabW head_Size.tab7 head_Size.bits7 (fun HT_ HW_ => ?_)
   generalize w20.drew = w22 at BK210 HB hHeld ⊢
   refine pur_ (i := 0) (N := some 32) #[true, false, false, false, false, false, false, false, false, false] (any_of HT_.out (by kernel_rfl)) ?_; refine pur_ (i := 2) (N := some 34) #[true, false, true, false, false, false, false, false, false, false] (any_of HT_.out (by kernel_rfl)) ?_; refine take_ (i := 1) (N := some 33) (v := ?_) (a' := ?_) #[true, true, true, false, false, false, false, false, false, false] rfl rfl (take_ofW HT_.out HW_.out (by kernel_rfl)) (fun _ _ _ h => h) (Or.inl ⟨by rfl, ?_⟩) hHeld ?_ ?_; rotate_left
   · rintro w' ⟨s0, s1, s2, s3⟩
     go_simp; with_reducible rfl
   rotate_left
   · simp only [Act.put, List.setIfInBounds_toArray, List.set_cons_zero, List.set_cons_succ, i64_w, i32_w]; rfl
   refine take_ (i := 3) (N := some 35) (v := ?_) (a' := ?_) #[true, true, true, true, false, false, false, false, false, false] rfl rfl (take_ofW HT_.out HW_.out (by kernel_rfl)) (fun _ _ _ h => h) (Or.inl ⟨by rfl, ?_⟩) hHeld ?_ ?_; rotate_left
   · rintro w' ⟨s0, s1, s2, s3⟩
     go_simp; with_reducible rfl
   rotate_left
   · simp only [Act.put, List.setIfInBounds_toArray, List.set_cons_zero, List.set_cons_succ, i64_w, i32_w]; rfl
   refine pur_ (i := 4) (N := some 36) #[true, true, true, true, true, false, false, false, false, false] (any_of HT_.out (by kernel_rfl)) ?_; refine take_ (i := 5) (N := some 37) (v := ?_) (a' := ?_) #[true, true, true, true, true, true, false, false, false, false] rfl rfl (take_ofW HT_.out HW_.out (by kernel_rfl)) (fun _ _ _ h => h) (Or.inl ⟨by rfl, ?_⟩) hHeld ?_ ?_; rotate_left
   · rintro w' ⟨s0, s1, s2, s3⟩
     go_simp; with_reducible rfl
   rotate_left
   · simp only [Act.put, List.setIfInBounds_toArray, List.set_cons_zero, List.set_cons_succ, i64_w, i32_w]; rfl
   refine one_ (i := 6) (N := some 38) #[true, true, true, true, true, true, true, false, false, false] rfl rfl (one_of HT_.out (by kernel_rfl)) (by decide) (fun K hK => ?_); refine goes_ Try.func22 (by kernel_rfl) rfl #[.agg #[.int .i64 a0_0, .int .i64 a0_1, .int .i64 a0_2, .int .i64 a0_3]] (by rfl) rfl rfl (by (try simp only [List.map_toArray, List.map_cons, List.map_nil]); first | done | rfl | (simp only [List.length_drop, List.length_take]; rfl)) ?_
   with_reducible refine (head_Format.calls a0_0 a0_1 a0_2 a0_3 t214 t215 _ A17.out).mono ?_
   rintro e w23 ⟨rfl, hb⟩
   refine ⟨_, rfl, ?_⟩; replace BK210 := Aside0.mk (blk_below (hp_ BK210.out) hb); replace HB := Aside0.mk (below_step bp_ hb)
   (try clear hb)
   (try clear hb2)
   (try clear hk)
   (try clear hi)
   refine hK.out _ _ ⟨(blk_cell BK210.out 0).trans rfl, (blk_cell BK210.out 1).trans rfl, (blk_cell BK210.out 2).trans rfl, (blk_cell BK210.out 3).trans rfl⟩ (fun hHeld => ?_); clear hK K; refine norm_ (a' := ?_) ?_ ?_; rotate_left
   · show Act.put _ (some 38) _ = _
     simp only [Act.put, List.setIfInBounds_toArray, List.set_cons_zero, List.set_cons_succ, i64_w, i32_w]; rfl
   refine pur_ (i := 7) (N := some 39) #[true, true, true, true, true, true, true, true, false, false] (any_of HT_.out (by kernel_rfl)) ?_; refine pur_ (i := 8) (N := some 40) #[true, true, true, true, true, true, true, true, true, false] (any_of HT_.out (by kernel_rfl)) ?_; refine pur_ (i := 9) (N := some 2) #[true, true, true, true, true, true, true, true, true, true] (any_of HT_.out (by kernel_rfl)) ?_; refine done_ (done_of HT_.out (by kernel_rfl)) ?_
   try go_wp2
   go_ret
   exact ⟨by first | rfl | (simp [errW_none, errW_some] <;> rfl) | (simp [*, errW_none, errW_some] <;> rfl), bp_⟩
 replace c3 := Bool.eq_false_iff.mpr c3
 subst c3
 have H1 : (some 0) = some r := by rw [if_neg (show ¬ (false = true) by decide)] at H; exact H
 clear H
 have H := H1
 clear H1
 obtain rfl := Option.some.inj H
 go_enter Try.func25, Try.ntmps25
 go_wp2_with (first | ((with_reducible refine gate_dst (N := 1) rfl ?_); refine box_event ?hg (N := 1) ?hd (cs := #[.int .i64 a0_0, .int .i64 a0_1, .int .i64 a0_2, .int .i64 a0_3]) (t := 36) ?hr ?_; (case hd => rfl); (case hg => rfl); (case hr => first | (go_simp; done) | (go_simp; rfl)); intro gb210 hg w24 hbox hb; have BK210 := Aside0.mk (hbox); have GW210 := Aside0.mk ((by rw [hg]; exact (below_size bp_) : w.heap.size ≤ gb210)); have GE210 := Aside0.mk ((by rw [hg]; exact (below_size bp_) : w.heap.size ≤ gb210)); replace HB := Aside0.mk (below_step bp_ hb); clear hb hbox hg; have hcz25_0 : w24.cell? ⟨gb210, 0, none⟩ = some (.int .i64 a0_0) := (blk_cell BK210.out 0).trans rfl; have hcz25_1 : w24.cell? ⟨gb210, 1, none⟩ = some (.int .i64 a0_1) := (blk_cell BK210.out 1).trans rfl; have hcz25_2 : w24.cell? ⟨gb210, 2, none⟩ = some (.int .i64 a0_2) := (blk_cell BK210.out 2).trans rfl; have hcz25_3 : w24.cell? ⟨gb210, 3, none⟩ = some (.int .i64 a0_3) := (blk_cell BK210.out 3).trans rfl; have hfz25_0 := blk_frozen BK210.out 0; have hfz25_1 := blk_frozen BK210.out 1; have hfz25_2 := blk_frozen BK210.out 2; have hfz25_3 := blk_frozen BK210.out 3) | ((with_reducible refine gate_callee (f := 27) rfl ?_); refine goQ_ (some 5) Try.func27 #[.agg #[.int .i64 a0_0, .int .i64 a0_1, .int .i64 a0_2, .int .i64 a0_3]] ?_; (with_reducible refine (head_Raw.calls a0_0 a0_1 a0_2 a0_3 false _ A2.out).mono ?_); rintro e w26 ⟨rfl, hb⟩; refine ⟨_, rfl, ?_⟩; replace HB := Aside0.mk (below_step bp_ hb); (try clear hb); (try clear hb2); (try clear hk); (try clear hi)))
 go_ret
 exact ⟨by first | rfl | (simp [errW_none, errW_some] <;> rfl) | (simp [*, errW_none, errW_some] <;> rfl), bp_⟩


/-! ### chequerlaw06_lives: function 12 -/
def chequerlaw06_lives.f (k : Nat)  : Option (Bool) := (head_All.f).bind fun bt216 => ((head_Parse.f k (⟨#[80, 53, 32, 51, 32, 50, 32, 50, 53, 53, 10]⟩ : ByteArray) bt216.1 bt216.2.1 bt216.2.2).bind fun bt219 => (if bt219.2.2.2.2.2 = 0 then (if bt219.2.2.2.2.1 = 11 then (if bt219.1 = 5 then (if bt219.2.1 = 3 then (if bt219.2.2.1 = 2 then (if bt219.2.2.2.1 = 255 then ((head_Size.f bt219.1 bt219.2.1 bt219.2.2.1 bt219.2.2.2.1).bind fun t226 => (some (t226 == 6))) else (some false)) else (some false)) else (some false)) else (some false)) else (some false)) else (some false)))
theorem chequerlaw06_lives.mono : ∀ k, LeO (chequerlaw06_lives.f k ) (chequerlaw06_lives.f (k + 1) ) := by
 intro  k
 unfold chequerlaw06_lives.f
 repeat' first
  | (with_reducible exact head_Parse.mono _ _ _ _ _)
  | (with_reducible exact LeO.refl _)
  | (with_reducible exact LeO.none _)
  | (with_reducible refine LeO.ite ?_ ?_)
  | (with_reducible refine LeO.bind ?_ (fun _ => ?_))
  | exact head_Parse.mono _ _ _ _ _
  | exact LeO.none _
  | refine LeO.ite ?_ ?_
  | refine LeO.bind ?_ (fun _ => ?_)
set_option maxHeartbeats 8000000 in
set_option maxRecDepth 100000 in
theorem chequerlaw06_lives.calls (k : Nat)  (r : Bool) (w : World) (h : chequerlaw06_lives.f k  = some r) :
 Calls Try.prog 12 #[] w fun e w' => e = .returned (.bool r) ∧ Below w.heap.size w w' := by
 have hu36 := Try.underlying36
 have HB := Aside0.mk (Below.refl w.heap.size w)
 have H : ((head_All.f).bind fun bt216 => ((head_Parse.f k (⟨#[80, 53, 32, 51, 32, 50, 32, 50, 53, 53, 10]⟩ : ByteArray) bt216.1 bt216.2.1 bt216.2.2).bind fun bt219 => (if bt219.2.2.2.2.2 = 0 then (if bt219.2.2.2.2.1 = 11 then (if bt219.1 = 5 then (if bt219.2.1 = 3 then (if bt219.2.2.1 = 2 then (if bt219.2.2.2.1 = 255 then ((head_Size.f bt219.1 bt219.2.1 bt219.2.2.1 bt219.2.2.2.1).bind fun t226 => (some (t226 == 6))) else (some false)) else (some false)) else (some false)) else (some false)) else (some false)) else (some false)))) = some r := h
 clear h
 replace H := Option.bind_eq_some_iff.mp H
 obtain ⟨⟨t216, t217, t218⟩, A10, H⟩ := H
 replace H : ((head_Parse.f k (⟨#[80, 53, 32, 51, 32, 50, 32, 50, 53, 53, 10]⟩ : ByteArray) t216 t217 t218).bind fun bt219 => (if bt219.2.2.2.2.2 = 0 then (if bt219.2.2.2.2.1 = 11 then (if bt219.1 = 5 then (if bt219.2.1 = 3 then (if bt219.2.2.1 = 2 then (if bt219.2.2.2.1 = 255 then ((head_Size.f bt219.1 bt219.2.1 bt219.2.2.1 bt219.2.2.2.1).bind fun t226 => (some (t226 == 6))) else (some false)) else (some false)) else (some false)) else (some false)) else (some false)) else (some false))) = some r := H
 have A1 := Aside0.mk A10
 clear A10
 replace H := Option.bind_eq_some_iff.mp H
 obtain ⟨⟨t219, t220, t221, t222, t223, t224⟩, A20, H⟩ := H
 replace H : (if t224 = 0 then (if t223 = 11 then (if t219 = 5 then (if t220 = 3 then (if t221 = 2 then (if t222 = 255 then ((head_Size.f t219 t220 t221 t222).bind fun t226 => (some (t226 == 6))) else (some false)) else (some false)) else (some false)) else (some false)) else (some false)) else (some false)) = some r := H
 have A2 := Aside0.mk A20
 clear A20
 by_cases c3 : t224 = 0
 · rw [if_pos c3] at H
   have c3b0 : (t224 == 0) = true := beq_iff_eq.mpr c3
   have c3b1 : (t224 != 0) = false := bne_eq_false_iff_eq.mpr c3
   clear c3
   by_cases c4 : t223 = 11
   · rw [if_pos c4] at H
     have c4b0 : (t223 == 11) = true := beq_iff_eq.mpr c4
     have c4b1 : (t223 != 11) = false := bne_eq_false_iff_eq.mpr c4
     clear c4
     by_cases c5 : t219 = 5
     · rw [if_pos c5] at H
       have c5b0 : (t219 == 5) = true := beq_iff_eq.mpr c5
       have c5b1 : (t219 != 5) = false := bne_eq_false_iff_eq.mpr c5
       clear c5
       by_cases c6 : t220 = 3
       · rw [if_pos c6] at H
         have c6b0 : (t220 == 3) = true := beq_iff_eq.mpr c6
         have c6b1 : (t220 != 3) = false := bne_eq_false_iff_eq.mpr c6
         clear c6
         by_cases c7 : t221 = 2
         · rw [if_pos c7] at H
           have c7b0 : (t221 == 2) = true := beq_iff_eq.mpr c7
           have c7b1 : (t221 != 2) = false := bne_eq_false_iff_eq.mpr c7
           clear c7
           by_cases c8 : t222 = 255
           · rw [if_pos c8] at H
             have c8b0 : (t222 == 255) = true := beq_iff_eq.mpr c8
             have c8b1 : (t222 != 255) = false := bne_eq_false_iff_eq.mpr c8
             clear c8; replace H := Option.bind_eq_some_iff.mp H; obtain ⟨t226, A90, H⟩ := H
             replace H : (some (t226 == 6)) = some r := H
             have A9 := Aside0.mk A90; clear A90
             obtain rfl := Option.some.inj H
             go_enter Try.func12, Try.ntmps12
             go_wp2_with (first | ((with_reducible refine gate_callee (f := 14) rfl ?_); refine goQ_ (some 5) Try.func14 #[] ?_; (with_reducible refine (head_All.calls  t216 t217 t218 _ A1.out).mono ?_); rintro e w10 ⟨rfl, hb⟩; refine ⟨_, rfl, ?_⟩; replace HB := Aside0.mk (below_step bp_ hb); (try clear hb); (try clear hb2); (try clear hk); (try clear hi)) | ((with_reducible refine gate_callee (f := 15) rfl ?_); refine goQ_ (some 6) Try.func15 #[.string (⟨#[80, 53, 32, 51, 32, 50, 32, 50, 53, 53, 10]⟩ : ByteArray), .agg #[.int .i64 t216, .int .i64 t217, .int .i64 t218]] ?_; (with_reducible refine (head_Parse.calls k (⟨#[80, 53, 32, 51, 32, 50, 32, 50, 53, 53, 10]⟩ : ByteArray) t216 t217 t218 t219 t220 t221 t222 t223 t224 _ A2.out).mono ?_); rintro e w11 ⟨rfl, hb⟩; refine ⟨_, rfl, ?_⟩; replace HB := Aside0.mk (below_step bp_ hb); (try clear hb); (try clear hb2); (try clear hk); (try clear hi)) | ((with_reducible refine gate_dst (N := 1) rfl ?_); refine box_event ?hg (N := 1) ?hd (cs := #[.int .i64 0, .int .i64 0, .int .i64 0, .int .i64 0]) (t := 36) ?hr ?_; (case hd => rfl); (case hg => rfl); (case hr => first | (go_simp; done) | (go_simp; rfl)); intro gb225 hg w12 hbox hb; have BK225 := Aside0.mk (hbox); have GW225 := Aside0.mk ((by rw [hg]; exact (below_size bp_) : w.heap.size ≤ gb225)); have GE225 := Aside0.mk ((by rw [hg]; exact (below_size bp_) : w.heap.size ≤ gb225)); replace HB := Aside0.mk (below_step bp_ hb); clear hb hbox hg; have hcz13_0 : w12.cell? ⟨gb225, 0, none⟩ = some (.int .i64 0) := (blk_cell BK225.out 0).trans rfl; have hcz13_1 : w12.cell? ⟨gb225, 1, none⟩ = some (.int .i64 0) := (blk_cell BK225.out 1).trans rfl; have hcz13_2 : w12.cell? ⟨gb225, 2, none⟩ = some (.int .i64 0) := (blk_cell BK225.out 2).trans rfl; have hcz13_3 : w12.cell? ⟨gb225, 3, none⟩ = some (.int .i64 0) := (blk_cell BK225.out 3).trans rfl; have hfz13_0 := blk_frozen BK225.out 0; have hfz13_1 := blk_frozen BK225.out 1; have hfz13_2 := blk_frozen BK225.out 2; have hfz13_3 := blk_frozen BK225.out 3) | (go_at_call 25; (with_reducible refine (head_Size.calls t219 t220 t221 t222 t226 _ A9.out).mono ?_); rintro e w14 ⟨rfl, hb⟩; replace BK225 := Aside0.mk (blk_below (g := gb225) (o := .cells #[.int .i64 t219, .int .i64 t220, .int .i64 t221, .int .i64 t222] 36 (0, 0)) (by (with_reducible repeat (first | refine blk_drewN ?_ _ | refine blk_drew ?_ | refine blk_alloc ?_ _)); refine blk_put (cs := #[.int .i64 t219, .int .i64 t220, .int .i64 t221, .int .i64 0]) ?_ 3 _ rfl; (with_reducible repeat (first | refine blk_drewN ?_ _ | refine blk_drew ?_ | refine blk_alloc ?_ _)); refine blk_put (cs := #[.int .i64 t219, .int .i64 t220, .int .i64 0, .int .i64 0]) ?_ 2 _ rfl; (with_reducible repeat (first | refine blk_drewN ?_ _ | refine blk_drew ?_ | refine blk_alloc ?_ _)); refine blk_put (cs := #[.int .i64 t219, .int .i64 0, .int .i64 0, .int .i64 0]) ?_ 1 _ rfl; (with_reducible repeat (first | refine blk_drewN ?_ _ | refine blk_drew ?_ | refine blk_alloc ?_ _)); refine blk_put (cs := #[.int .i64 0, .int .i64 0, .int .i64 0, .int .i64 0]) ?_ 0 _ rfl; (with_reducible repeat (first | refine blk_drewN ?_ _ | refine blk_drew ?_ | refine blk_alloc ?_ _)); exact BK225.out) hb); replace HB := Aside0.mk (below_step bp_ hb); (try clear hb); (try clear hb2); (try clear hk); (try clear hi)))
             go_ret
             exact ⟨by first | rfl | (simp [errW_none, errW_some] <;> rfl) | (simp [*, errW_none, errW_some] <;> rfl), bp_⟩
           rw [if_neg c8] at H
           have c8b0 : (t222 == 255) = false := beq_eq_false_iff_ne.mpr c8
           have c8b1 : (t222 != 255) = true := bne_iff_ne.mpr c8
           obtain rfl := Option.some.inj H
           go_enter Try.func12, Try.ntmps12
           go_wp2_with (first | ((with_reducible refine gate_callee (f := 14) rfl ?_); refine goQ_ (some 5) Try.func14 #[] ?_; (with_reducible refine (head_All.calls  t216 t217 t218 _ A1.out).mono ?_); rintro e w15 ⟨rfl, hb⟩; refine ⟨_, rfl, ?_⟩; replace HB := Aside0.mk (below_step bp_ hb); (try clear hb); (try clear hb2); (try clear hk); (try clear hi)) | ((with_reducible refine gate_callee (f := 15) rfl ?_); refine goQ_ (some 6) Try.func15 #[.string (⟨#[80, 53, 32, 51, 32, 50, 32, 50, 53, 53, 10]⟩ : ByteArray), .agg #[.int .i64 t216, .int .i64 t217, .int .i64 t218]] ?_; (with_reducible refine (head_Parse.calls k (⟨#[80, 53, 32, 51, 32, 50, 32, 50, 53, 53, 10]⟩ : ByteArray) t216 t217 t218 t219 t220 t221 t222 t223 t224 _ A2.out).mono ?_); rintro e w16 ⟨rfl, hb⟩; refine ⟨_, rfl, ?_⟩; replace HB := Aside0.mk (below_step bp_ hb); (try clear hb); (try clear hb2); (try clear hk); (try clear hi)) | ((with_reducible refine gate_dst (N := 1) rfl ?_); refine box_event ?hg (N := 1) ?hd (cs := #[.int .i64 0, .int .i64 0, .int .i64 0, .int .i64 0]) (t := 36) ?hr ?_; (case hd => rfl); (case hg => rfl); (case hr => first | (go_simp; done) | (go_simp; rfl)); intro gb225 hg w17 hbox hb; have BK225 := Aside0.mk (hbox); have GW225 := Aside0.mk ((by rw [hg]; exact (below_size bp_) : w.heap.size ≤ gb225)); have GE225 := Aside0.mk ((by rw [hg]; exact (below_size bp_) : w.heap.size ≤ gb225)); replace HB := Aside0.mk (below_step bp_ hb); clear hb hbox hg; have hcz18_0 : w17.cell? ⟨gb225, 0, none⟩ = some (.int .i64 0) := (blk_cell BK225.out 0).trans rfl; have hcz18_1 : w17.cell? ⟨gb225, 1, none⟩ = some (.int .i64 0) := (blk_cell BK225.out 1).trans rfl; have hcz18_2 : w17.cell? ⟨gb225, 2, none⟩ = some (.int .i64 0) := (blk_cell BK225.out 2).trans rfl; have hcz18_3 : w17.cell? ⟨gb225, 3, none⟩ = some (.int .i64 0) := (blk_cell BK225.out 3).trans rfl; have hfz18_0 := blk_frozen BK225.out 0; have hfz18_1 := blk_frozen BK225.out 1; have hfz18_2 := blk_frozen BK225.out 2; have hfz18_3 := blk_frozen BK225.out 3))
           go_ret
           exact ⟨by first | rfl | (simp [errW_none, errW_some] <;> rfl) | (simp [*, errW_none, errW_some] <;> rfl), bp_⟩
         rw [if_neg c7] at H
         have c7b0 : (t221 == 2) = false := beq_eq_false_iff_ne.mpr c7
         have c7b1 : (t221 != 2) = true := bne_iff_ne.mpr c7
         obtain rfl := Option.some.inj H
         go_enter Try.func12, Try.ntmps12
         go_wp2_with (first | ((with_reducible refine gate_callee (f := 14) rfl ?_); refine goQ_ (some 5) Try.func14 #[] ?_; (with_reducible refine (head_All.calls  t216 t217 t218 _ A1.out).mono ?_); rintro e w19 ⟨rfl, hb⟩; refine ⟨_, rfl, ?_⟩; replace HB := Aside0.mk (below_step bp_ hb); (try clear hb); (try clear hb2); (try clear hk); (try clear hi)) | ((with_reducible refine gate_callee (f := 15) rfl ?_); refine goQ_ (some 6) Try.func15 #[.string (⟨#[80, 53, 32, 51, 32, 50, 32, 50, 53, 53, 10]⟩ : ByteArray), .agg #[.int .i64 t216, .int .i64 t217, .int .i64 t218]] ?_; (with_reducible refine (head_Parse.calls k (⟨#[80, 53, 32, 51, 32, 50, 32, 50, 53, 53, 10]⟩ : ByteArray) t216 t217 t218 t219 t220 t221 t222 t223 t224 _ A2.out).mono ?_); rintro e w20 ⟨rfl, hb⟩; refine ⟨_, rfl, ?_⟩; replace HB := Aside0.mk (below_step bp_ hb); (try clear hb); (try clear hb2); (try clear hk); (try clear hi)) | ((with_reducible refine gate_dst (N := 1) rfl ?_); refine box_event ?hg (N := 1) ?hd (cs := #[.int .i64 0, .int .i64 0, .int .i64 0, .int .i64 0]) (t := 36) ?hr ?_; (case hd => rfl); (case hg => rfl); (case hr => first | (go_simp; done) | (go_simp; rfl)); intro gb225 hg w21 hbox hb; have BK225 := Aside0.mk (hbox); have GW225 := Aside0.mk ((by rw [hg]; exact (below_size bp_) : w.heap.size ≤ gb225)); have GE225 := Aside0.mk ((by rw [hg]; exact (below_size bp_) : w.heap.size ≤ gb225)); replace HB := Aside0.mk (below_step bp_ hb); clear hb hbox hg; have hcz22_0 : w21.cell? ⟨gb225, 0, none⟩ = some (.int .i64 0) := (blk_cell BK225.out 0).trans rfl; have hcz22_1 : w21.cell? ⟨gb225, 1, none⟩ = some (.int .i64 0) := (blk_cell BK225.out 1).trans rfl; have hcz22_2 : w21.cell? ⟨gb225, 2, none⟩ = some (.int .i64 0) := (blk_cell BK225.out 2).trans rfl; have hcz22_3 : w21.cell? ⟨gb225, 3, none⟩ = some (.int .i64 0) := (blk_cell BK225.out 3).trans rfl; have hfz22_0 := blk_frozen BK225.out 0; have hfz22_1 := blk_frozen BK225.out 1; have hfz22_2 := blk_frozen BK225.out 2; have hfz22_3 := blk_frozen BK225.out 3))
         go_ret
         exact ⟨by first | rfl | (simp [errW_none, errW_some] <;> rfl) | (simp [*, errW_none, errW_some] <;> rfl), bp_⟩
       rw [if_neg c6] at H
       have c6b0 : (t220 == 3) = false := beq_eq_false_iff_ne.mpr c6
       have c6b1 : (t220 != 3) = true := bne_iff_ne.mpr c6
       obtain rfl := Option.some.inj H
       go_enter Try.func12, Try.ntmps12
       go_wp2_with (first | ((with_reducible refine gate_callee (f := 14) rfl ?_); refine goQ_ (some 5) Try.func14 #[] ?_; (with_reducible refine (head_All.calls  t216 t217 t218 _ A1.out).mono ?_); rintro e w23 ⟨rfl, hb⟩; refine ⟨_, rfl, ?_⟩; replace HB := Aside0.mk (below_step bp_ hb); (try clear hb); (try clear hb2); (try clear hk); (try clear hi)) | ((with_reducible refine gate_callee (f := 15) rfl ?_); refine goQ_ (some 6) Try.func15 #[.string (⟨#[80, 53, 32, 51, 32, 50, 32, 50, 53, 53, 10]⟩ : ByteArray), .agg #[.int .i64 t216, .int .i64 t217, .int .i64 t218]] ?_; (with_reducible refine (head_Parse.calls k (⟨#[80, 53, 32, 51, 32, 50, 32, 50, 53, 53, 10]⟩ : ByteArray) t216 t217 t218 t219 t220 t221 t222 t223 t224 _ A2.out).mono ?_); rintro e w24 ⟨rfl, hb⟩; refine ⟨_, rfl, ?_⟩; replace HB := Aside0.mk (below_step bp_ hb); (try clear hb); (try clear hb2); (try clear hk); (try clear hi)) | ((with_reducible refine gate_dst (N := 1) rfl ?_); refine box_event ?hg (N := 1) ?hd (cs := #[.int .i64 0, .int .i64 0, .int .i64 0, .int .i64 0]) (t := 36) ?hr ?_; (case hd => rfl); (case hg => rfl); (case hr => first | (go_simp; done) | (go_simp; rfl)); intro gb225 hg w25 hbox hb; have BK225 := Aside0.mk (hbox); have GW225 := Aside0.mk ((by rw [hg]; exact (below_size bp_) : w.heap.size ≤ gb225)); have GE225 := Aside0.mk ((by rw [hg]; exact (below_size bp_) : w.heap.size ≤ gb225)); replace HB := Aside0.mk (below_step bp_ hb); clear hb hbox hg; have hcz26_0 : w25.cell? ⟨gb225, 0, none⟩ = some (.int .i64 0) := (blk_cell BK225.out 0).trans rfl; have hcz26_1 : w25.cell? ⟨gb225, 1, none⟩ = some (.int .i64 0) := (blk_cell BK225.out 1).trans rfl; have hcz26_2 : w25.cell? ⟨gb225, 2, none⟩ = some (.int .i64 0) := (blk_cell BK225.out 2).trans rfl; have hcz26_3 : w25.cell? ⟨gb225, 3, none⟩ = some (.int .i64 0) := (blk_cell BK225.out 3).trans rfl; have hfz26_0 := blk_frozen BK225.out 0; have hfz26_1 := blk_frozen BK225.out 1; have hfz26_2 := blk_frozen BK225.out 2; have hfz26_3 := blk_frozen BK225.out 3))
       go_ret
       exact ⟨by first | rfl | (simp [errW_none, errW_some] <;> rfl) | (simp [*, errW_none, errW_some] <;> rfl), bp_⟩
     rw [if_neg c5] at H
     have c5b0 : (t219 == 5) = false := beq_eq_false_iff_ne.mpr c5
     have c5b1 : (t219 != 5) = true := bne_iff_ne.mpr c5
     obtain rfl := Option.some.inj H
     go_enter Try.func12, Try.ntmps12
     go_wp2_with (first | ((with_reducible refine gate_callee (f := 14) rfl ?_); refine goQ_ (some 5) Try.func14 #[] ?_; (with_reducible refine (head_All.calls  t216 t217 t218 _ A1.out).mono ?_); rintro e w27 ⟨rfl, hb⟩; refine ⟨_, rfl, ?_⟩; replace HB := Aside0.mk (below_step bp_ hb); (try clear hb); (try clear hb2); (try clear hk); (try clear hi)) | ((with_reducible refine gate_callee (f := 15) rfl ?_); refine goQ_ (some 6) Try.func15 #[.string (⟨#[80, 53, 32, 51, 32, 50, 32, 50, 53, 53, 10]⟩ : ByteArray), .agg #[.int .i64 t216, .int .i64 t217, .int .i64 t218]] ?_; (with_reducible refine (head_Parse.calls k (⟨#[80, 53, 32, 51, 32, 50, 32, 50, 53, 53, 10]⟩ : ByteArray) t216 t217 t218 t219 t220 t221 t222 t223 t224 _ A2.out).mono ?_); rintro e w28 ⟨rfl, hb⟩; refine ⟨_, rfl, ?_⟩; replace HB := Aside0.mk (below_step bp_ hb); (try clear hb); (try clear hb2); (try clear hk); (try clear hi)) | ((with_reducible refine gate_dst (N := 1) rfl ?_); refine box_event ?hg (N := 1) ?hd (cs := #[.int .i64 0, .int .i64 0, .int .i64 0, .int .i64 0]) (t := 36) ?hr ?_; (case hd => rfl); (case hg => rfl); (case hr => first | (go_simp; done) | (go_simp; rfl)); intro gb225 hg w29 hbox hb; have BK225 := Aside0.mk (hbox); have GW225 := Aside0.mk ((by rw [hg]; exact (below_size bp_) : w.heap.size ≤ gb225)); have GE225 := Aside0.mk ((by rw [hg]; exact (below_size bp_) : w.heap.size ≤ gb225)); replace HB := Aside0.mk (below_step bp_ hb); clear hb hbox hg; have hcz30_0 : w29.cell? ⟨gb225, 0, none⟩ = some (.int .i64 0) := (blk_cell BK225.out 0).trans rfl; have hcz30_1 : w29.cell? ⟨gb225, 1, none⟩ = some (.int .i64 0) := (blk_cell BK225.out 1).trans rfl; have hcz30_2 : w29.cell? ⟨gb225, 2, none⟩ = some (.int .i64 0) := (blk_cell BK225.out 2).trans rfl; have hcz30_3 : w29.cell? ⟨gb225, 3, none⟩ = some (.int .i64 0) := (blk_cell BK225.out 3).trans rfl; have hfz30_0 := blk_frozen BK225.out 0; have hfz30_1 := blk_frozen BK225.out 1; have hfz30_2 := blk_frozen BK225.out 2; have hfz30_3 := blk_frozen BK225.out 3))
     go_ret
     exact ⟨by first | rfl | (simp [errW_none, errW_some] <;> rfl) | (simp [*, errW_none, errW_some] <;> rfl), bp_⟩
   rw [if_neg c4] at H
   have c4b0 : (t223 == 11) = false := beq_eq_false_iff_ne.mpr c4
   have c4b1 : (t223 != 11) = true := bne_iff_ne.mpr c4
   obtain rfl := Option.some.inj H
   go_enter Try.func12, Try.ntmps12
   go_wp2_with (first | ((with_reducible refine gate_callee (f := 14) rfl ?_); refine goQ_ (some 5) Try.func14 #[] ?_; (with_reducible refine (head_All.calls  t216 t217 t218 _ A1.out).mono ?_); rintro e w31 ⟨rfl, hb⟩; refine ⟨_, rfl, ?_⟩; replace HB := Aside0.mk (below_step bp_ hb); (try clear hb); (try clear hb2); (try clear hk); (try clear hi)) | ((with_reducible refine gate_callee (f := 15) rfl ?_); refine goQ_ (some 6) Try.func15 #[.string (⟨#[80, 53, 32, 51, 32, 50, 32, 50, 53, 53, 10]⟩ : ByteArray), .agg #[.int .i64 t216, .int .i64 t217, .int .i64 t218]] ?_; (with_reducible refine (head_Parse.calls k (⟨#[80, 53, 32, 51, 32, 50, 32, 50, 53, 53, 10]⟩ : ByteArray) t216 t217 t218 t219 t220 t221 t222 t223 t224 _ A2.out).mono ?_); rintro e w32 ⟨rfl, hb⟩; refine ⟨_, rfl, ?_⟩; replace HB := Aside0.mk (below_step bp_ hb); (try clear hb); (try clear hb2); (try clear hk); (try clear hi)) | ((with_reducible refine gate_dst (N := 1) rfl ?_); refine box_event ?hg (N := 1) ?hd (cs := #[.int .i64 0, .int .i64 0, .int .i64 0, .int .i64 0]) (t := 36) ?hr ?_; (case hd => rfl); (case hg => rfl); (case hr => first | (go_simp; done) | (go_simp; rfl)); intro gb225 hg w33 hbox hb; have BK225 := Aside0.mk (hbox); have GW225 := Aside0.mk ((by rw [hg]; exact (below_size bp_) : w.heap.size ≤ gb225)); have GE225 := Aside0.mk ((by rw [hg]; exact (below_size bp_) : w.heap.size ≤ gb225)); replace HB := Aside0.mk (below_step bp_ hb); clear hb hbox hg; have hcz34_0 : w33.cell? ⟨gb225, 0, none⟩ = some (.int .i64 0) := (blk_cell BK225.out 0).trans rfl; have hcz34_1 : w33.cell? ⟨gb225, 1, none⟩ = some (.int .i64 0) := (blk_cell BK225.out 1).trans rfl; have hcz34_2 : w33.cell? ⟨gb225, 2, none⟩ = some (.int .i64 0) := (blk_cell BK225.out 2).trans rfl; have hcz34_3 : w33.cell? ⟨gb225, 3, none⟩ = some (.int .i64 0) := (blk_cell BK225.out 3).trans rfl; have hfz34_0 := blk_frozen BK225.out 0; have hfz34_1 := blk_frozen BK225.out 1; have hfz34_2 := blk_frozen BK225.out 2; have hfz34_3 := blk_frozen BK225.out 3))
   go_ret
   exact ⟨by first | rfl | (simp [errW_none, errW_some] <;> rfl) | (simp [*, errW_none, errW_some] <;> rfl), bp_⟩
 rw [if_neg c3] at H
 have c3b0 : (t224 == 0) = false := beq_eq_false_iff_ne.mpr c3
 have c3b1 : (t224 != 0) = true := bne_iff_ne.mpr c3
 obtain rfl := Option.some.inj H
 go_enter Try.func12, Try.ntmps12
 go_wp2_with (first | ((with_reducible refine gate_callee (f := 14) rfl ?_); refine goQ_ (some 5) Try.func14 #[] ?_; (with_reducible refine (head_All.calls  t216 t217 t218 _ A1.out).mono ?_); rintro e w35 ⟨rfl, hb⟩; refine ⟨_, rfl, ?_⟩; replace HB := Aside0.mk (below_step bp_ hb); (try clear hb); (try clear hb2); (try clear hk); (try clear hi)) | ((with_reducible refine gate_callee (f := 15) rfl ?_); refine goQ_ (some 6) Try.func15 #[.string (⟨#[80, 53, 32, 51, 32, 50, 32, 50, 53, 53, 10]⟩ : ByteArray), .agg #[.int .i64 t216, .int .i64 t217, .int .i64 t218]] ?_; (with_reducible refine (head_Parse.calls k (⟨#[80, 53, 32, 51, 32, 50, 32, 50, 53, 53, 10]⟩ : ByteArray) t216 t217 t218 t219 t220 t221 t222 t223 t224 _ A2.out).mono ?_); rintro e w36 ⟨rfl, hb⟩; refine ⟨_, rfl, ?_⟩; replace HB := Aside0.mk (below_step bp_ hb); (try clear hb); (try clear hb2); (try clear hk); (try clear hi)) | ((with_reducible refine gate_dst (N := 1) rfl ?_); refine box_event ?hg (N := 1) ?hd (cs := #[.int .i64 0, .int .i64 0, .int .i64 0, .int .i64 0]) (t := 36) ?hr ?_; (case hd => rfl); (case hg => rfl); (case hr => first | (go_simp; done) | (go_simp; rfl)); intro gb225 hg w37 hbox hb; have BK225 := Aside0.mk (hbox); have GW225 := Aside0.mk ((by rw [hg]; exact (below_size bp_) : w.heap.size ≤ gb225)); have GE225 := Aside0.mk ((by rw [hg]; exact (below_size bp_) : w.heap.size ≤ gb225)); replace HB := Aside0.mk (below_step bp_ hb); clear hb hbox hg; have hcz38_0 : w37.cell? ⟨gb225, 0, none⟩ = some (.int .i64 0) := (blk_cell BK225.out 0).trans rfl; have hcz38_1 : w37.cell? ⟨gb225, 1, none⟩ = some (.int .i64 0) := (blk_cell BK225.out 1).trans rfl; have hcz38_2 : w37.cell? ⟨gb225, 2, none⟩ = some (.int .i64 0) := (blk_cell BK225.out 2).trans rfl; have hcz38_3 : w37.cell? ⟨gb225, 3, none⟩ = some (.int .i64 0) := (blk_cell BK225.out 3).trans rfl; have hfz38_0 := blk_frozen BK225.out 0; have hfz38_1 := blk_frozen BK225.out 1; have hfz38_2 := blk_frozen BK225.out 2; have hfz38_3 := blk_frozen BK225.out 3))
 go_ret
 exact ⟨by first | rfl | (simp [errW_none, errW_some] <;> rfl) | (simp [*, errW_none, errW_some] <;> rfl), bp_⟩

/-! ### chequerref05_Blank: function 33 -/
def chequerref05_Blank.f (a0 : Int) : Option (Bool) := if a0 = 32 then (some true) else (if a0 ≥ 9 then (some (decide (a0 ≤ 13))) else (some false))
set_option maxHeartbeats 8000000 in
set_option maxRecDepth 100000 in
theorem chequerref05_Blank.calls (a0 : Int) (r : Bool) (w : World) (h : chequerref05_Blank.f a0 = some r) :
    Calls Try.prog 33 #[.int .u8 a0] w fun e w' => e = .returned (.bool r) ∧ Drawn0 w w' := by
  have H : (if a0 = 32 then (some true) else (if a0 ≥ 9 then (some (decide (a0 ≤ 13))) else (some false))) = some r := h
  clear h
  by_cases c2 : a0 = 32
  · rw [if_pos c2] at H
    have c2b0 : (a0 == 32) = true := beq_iff_eq.mpr c2
    have c2b1 : (a0 != 32) = false := bne_eq_false_iff_eq.mpr c2
    clear c2
    obtain rfl := Option.some.inj H
    go_enter Try.func33, Try.ntmps33
    go_wp2
    go_ret
    exact ⟨by first | rfl | (simp; done) | (simp [*]; done), by repeat (first | exact Drawn0.refl _ | apply Drawn0.step)⟩
  rw [if_neg c2] at H
  have c2b0 : (a0 == 32) = false := beq_eq_false_iff_ne.mpr c2
  have c2b1 : (a0 != 32) = true := bne_iff_ne.mpr c2
  by_cases c3 : a0 ≥ 9
  · rw [if_pos c3] at H
    have c3b0 : decide (9 ≤ a0) = true := decide_eq_true c3
    clear c3
    obtain rfl := Option.some.inj H
    go_enter Try.func33, Try.ntmps33
    go_wp2
    go_ret
    exact ⟨by first | rfl | (simp; done) | (simp [*]; done), by repeat (first | exact Drawn0.refl _ | apply Drawn0.step)⟩
  rw [if_neg c3] at H
  have c3b0 : decide (9 ≤ a0) = false := decide_eq_false c3
  clear c3
  obtain rfl := Option.some.inj H
  go_enter Try.func33, Try.ntmps33
  go_wp2
  go_ret
  exact ⟨by first | rfl | (simp; done) | (simp [*]; done), by repeat (first | exact Drawn0.refl _ | apply Drawn0.step)⟩

/-! ### chequerref06_limits: function 34 -/
def chequerref06_limits.f (a0_0 : Int) (a0_1 : Int) (a0_2 : Int) : Option (List Int) := some (([mn (mx a0_0 1) 4096, mn (mx a0_1 1) 65536, mn (mx a0_2 1) 65535] : List Int))
set_option maxHeartbeats 8000000 in
set_option maxRecDepth 100000 in
theorem chequerref06_limits.calls (a0_0 : Int) (a0_1 : Int) (a0_2 : Int) (r : List Int) (w : World) (h : chequerref06_limits.f a0_0 a0_1 a0_2 = some r) :
    Calls Try.prog 34 #[.agg #[.int .i64 a0_0, .int .i64 a0_1, .int .i64 a0_2]] w fun e w' => ∃ v0_ : Value, e = .returned (v0_) ∧ Kd.R (Kd.int .i64) 3 w' w.heap.size (fun _ => True) v0_ r ∧ Below w.heap.size w w' := by
  have hu23 := Try.underlying23
  have HB := Aside0.mk (Below.refl w.heap.size w)
  have H : (some (([mn (mx a0_0 1) 4096, mn (mx a0_1 1) 65536, mn (mx a0_2 1) 65535] : List Int))) = some r := h
  clear h
  obtain ⟨ji2, hji2⟩ : ∃ j_ : Int, (mx a0_0 1) = j_ := ⟨_, rfl⟩
  replace H : (some (([mn (ji2) 4096, mn (mx a0_1 1) 65536, mn (mx a0_2 1) 65535] : List Int))) = some r := by first | (rw [hji2] at H; exact H) | (simp only [hji2] at H ⊢; exact H)
  (try (have hji2l : 1 ≤ ji2 := by (rw [← hji2]; unfold mx; (repeat' split) <;> omega)))
  (try (have hji2m : 0 ≤ ji2 := by omega))
  have hji2_ : (if a0_0 < 1 then 1 else a0_0) = ji2 := hji2
  obtain ⟨ji3, hji3⟩ : ∃ j_ : Int, (mn (ji2) 4096) = j_ := ⟨_, rfl⟩
  replace H : (some (([ji3, mn (mx a0_1 1) 65536, mn (mx a0_2 1) 65535] : List Int))) = some r := by first | (rw [hji3] at H; exact H) | (simp only [hji3] at H ⊢; exact H)
  have hji3_ : (if 4096 < (ji2) then 4096 else (ji2)) = ji3 := hji3
  obtain ⟨ji4, hji4⟩ : ∃ j_ : Int, (mx a0_1 1) = j_ := ⟨_, rfl⟩
  replace H : (some (([ji3, mn (ji4) 65536, mn (mx a0_2 1) 65535] : List Int))) = some r := by first | (rw [hji4] at H; exact H) | (simp only [hji4] at H ⊢; exact H)
  (try (have hji4l : 1 ≤ ji4 := by (rw [← hji4]; unfold mx; (repeat' split) <;> omega)))
  (try (have hji4m : 0 ≤ ji4 := by omega))
  have hji4_ : (if a0_1 < 1 then 1 else a0_1) = ji4 := hji4
  obtain ⟨ji5, hji5⟩ : ∃ j_ : Int, (mn (ji4) 65536) = j_ := ⟨_, rfl⟩
  replace H : (some (([ji3, ji5, mn (mx a0_2 1) 65535] : List Int))) = some r := by first | (rw [hji5] at H; exact H) | (simp only [hji5] at H ⊢; exact H)
  have hji5_ : (if 65536 < (ji4) then 65536 else (ji4)) = ji5 := hji5
  obtain ⟨ji6, hji6⟩ : ∃ j_ : Int, (mx a0_2 1) = j_ := ⟨_, rfl⟩
  replace H : (some (([ji3, ji5, mn (ji6) 65535] : List Int))) = some r := by first | (rw [hji6] at H; exact H) | (simp only [hji6] at H ⊢; exact H)
  (try (have hji6l : 1 ≤ ji6 := by (rw [← hji6]; unfold mx; (repeat' split) <;> omega)))
  (try (have hji6m : 0 ≤ ji6 := by omega))
  have hji6_ : (if a0_2 < 1 then 1 else a0_2) = ji6 := hji6
  obtain ⟨ji7, hji7⟩ : ∃ j_ : Int, (mn (ji6) 65535) = j_ := ⟨_, rfl⟩
  replace H : (some (([ji3, ji5, ji7] : List Int))) = some r := by first | (rw [hji7] at H; exact H) | (simp only [hji7] at H ⊢; exact H)
  have hji7_ : (if 65535 < (ji6) then 65535 else (ji6)) = ji7 := hji7
  obtain ⟨y228, hy228⟩ : ∃ y_ : List Int, y_ = (([ji3, ji5, ji7] : List Int)) := ⟨_, rfl⟩
  replace H : (some y228) = some r := by first | (rw [hy228]; with_reducible exact H) | (have H2_ := (Option.bind_some _ _).symm.trans H; rw [hy228]; with_reducible exact H2_) | (have H2_ := (Option.bind_some _ _).symm.trans H; with_reducible exact H2_) | with_reducible exact H | (rw [hy228]; exact H) | exact H
  have Ny228 := Aside0.mk hy228
  clear hy228
  obtain rfl := Option.some.inj H
  go_enter Try.func34, Try.ntmps34
  go_wp2_with (first | ((with_reducible refine gate_dst (N := 1) rfl ?_); refine box_event ?hg (N := 1) ?hd (cs := #[.int .i64 a0_0, .int .i64 a0_1, .int .i64 a0_2]) (t := 23) ?hr ?_; (case hd => rfl); (case hg => rfl); (case hr => first | (go_simp; done) | (go_simp; rfl)); intro gb227 hg w8 hbox hb; have n0_ := Aside0.mk (below_step (by repeat (first | (with_reducible first | exact HB.out | apply below_alloc | apply pw_below_drewN | apply below_drew1) | exact HB.out)) hb); have n1_ := Aside0.mk (hbox); have n2_ := Aside0.mk ((by rw [hg]; exact (below_size (by repeat (first | (with_reducible first | exact HB.out | apply below_alloc | apply pw_below_drewN | apply below_drew1) | exact HB.out))) : w.heap.size ≤ gb227)); have n3_ := Aside0.mk ((by rw [hg]; exact (below_size (by repeat (first | (with_reducible first | exact HB.out | apply below_alloc | apply pw_below_drewN | apply below_drew1) | exact HB.out))) : w.heap.size ≤ gb227)); clear HB; have HB := n0_; have BK227 := n1_; have GW227 := n2_; have GE227 := n3_; clear n0_ n1_ n2_ n3_; clear hb hbox hg; have hcz9_0 : w8.cell? ⟨gb227, 0, none⟩ = some (.int .i64 a0_0) := (blk_cell BK227.out 0).trans rfl; have hcz9_1 : w8.cell? ⟨gb227, 1, none⟩ = some (.int .i64 a0_1) := (blk_cell BK227.out 1).trans rfl; have hcz9_2 : w8.cell? ⟨gb227, 2, none⟩ = some (.int .i64 a0_2) := (blk_cell BK227.out 2).trans rfl; have hfz9_0 := blk_frozen BK227.out 0; have hfz9_1 := blk_frozen BK227.out 1; have hfz9_2 := blk_frozen BK227.out 2) | ((with_reducible refine gate_dst (N := 15) rfl ?_); refine Kd.R_lit (Kd.int .i64) _ 3 ?hg (N := 15) ?hd (xs := ([ji3, ji5, ji7] : List Int)) (inner := [.int .i64 ji3, .int .i64 ji5, .int .i64 ji7]) (ok := fun _ => True) (okp := fun _ => True) ?hr ?hp (fun _ hk => hk) trivial (Below.refl _ _) (Nat.le_refl _) (by simp) ?_; (case hd => rfl); (case hg => rfl); (case hr => first | (go_simp; done) | (go_simp; rfl)); (case hp => exact (Reps.one (show Kd.M (Kd.int .i64) _ _ _ ji3 [.int .i64 ji3] from rfl) (Reps.one (show Kd.M (Kd.int .i64) _ _ _ ji5 [.int .i64 ji5] from rfl) (Reps.one (show Kd.M (Kd.int .i64) _ _ _ ji7 [.int .i64 ji7] from rfl) (Reps.none _ _))))); intro v229 w10 ho11 hb hg_ hnew_; clear hg_ hnew_; (first | rw [← Ny228.out] at ho11 | (simp only [Int.reduceToNat] at ho11; rw [← Ny228.out] at ho11)); have n0_ := Aside0.mk (Kd.R_lower ho11 (below_size (by repeat (first | (with_reducible first | exact HB.out | apply below_alloc | apply pw_below_drewN | apply below_drew1) | exact HB.out)))); have n1_ := Aside0.mk (below_step (by repeat (first | (with_reducible first | exact HB.out | apply below_alloc | apply pw_below_drewN | apply below_drew1) | exact HB.out)) hb); clear HB; have HO230 := n0_; have HB := n1_; clear n0_ n1_; clear hb ho11))
  go_ret
  exact ⟨_, by first | rfl | (simp [errW_none, errW_some] <;> rfl) | (simp only [← hji2, ← hji3, ← hji4, ← hji5, ← hji6, ← hji7]; first | rfl | (simp [errW_none, errW_some] <;> rfl)) | (simp [*, errW_none, errW_some] <;> rfl), by (with_reducible repeat (first | apply Kd.R_alloc | apply Kd.R_drewN | apply Kd.R_drew)); exact HO230.out, by repeat (first | (with_reducible first | exact HB.out | apply below_alloc | apply pw_below_drewN | apply below_drew1) | exact HB.out)⟩

/-! ### chequerref05_New: function 35 -/
def chequerref05_New.f (a0 : Int) : Option (Int × Int × Int × Int) := some (0, 0, a0, 9)
set_option maxHeartbeats 8000000 in
set_option maxRecDepth 100000 in
theorem chequerref05_New.calls (a0 : Int) (r1 : Int) (r2 : Int) (r3 : Int) (r4 : Int) (w : World) (h : chequerref05_New.f a0 = some (r1, r2, r3, r4)) :
    Calls Try.prog 35 #[.int .i64 a0] w fun e w' => e = .returned (.agg #[.int .i64 r1, .int .i64 r2, .int .i64 r3, .int .i64 r4]) ∧ Below w.heap.size w w' := by
  have hu70 := Try.underlying70
  have HB := Aside0.mk (Below.refl w.heap.size w)
  have H : (some (0, 0, a0, 9)) = some (r1, r2, r3, r4) := h
  clear h
  simp only [Option.some.injEq, Prod.mk.injEq] at H
  obtain ⟨rfl, rfl, rfl, rfl⟩ := H
  go_enter Try.func35, Try.ntmps35
  go_wp2_with (first | ((with_reducible refine gate_dst (N := 2) rfl ?_); refine box_event ?hg (N := 2) ?hd (cs := #[.int .i64 0, .int .i64 0, .int .i64 0, .int .i64 0]) (t := 70) ?hr ?_; (case hd => rfl); (case hg => rfl); (case hr => first | (go_simp; done) | (go_simp; rfl)); intro gb231 hg w2 hbox hb; have n0_ := Aside0.mk (below_step (by repeat (first | (with_reducible first | exact HB.out | apply below_alloc | apply pw_below_drewN | apply below_drew1) | exact HB.out)) hb); have n1_ := Aside0.mk (hbox); have n2_ := Aside0.mk ((by rw [hg]; exact (below_size (by repeat (first | (with_reducible first | exact HB.out | apply below_alloc | apply pw_below_drewN | apply below_drew1) | exact HB.out))) : w.heap.size ≤ gb231)); have n3_ := Aside0.mk ((by rw [hg]; exact (below_size (by repeat (first | (with_reducible first | exact HB.out | apply below_alloc | apply pw_below_drewN | apply below_drew1) | exact HB.out))) : w.heap.size ≤ gb231)); clear HB; have HB := n0_; have BK231 := n1_; have GW231 := n2_; have GE231 := n3_; clear n0_ n1_ n2_ n3_; clear hb hbox hg; have hcz3_0 : w2.cell? ⟨gb231, 0, none⟩ = some (.int .i64 0) := (blk_cell BK231.out 0).trans rfl; have hcz3_1 : w2.cell? ⟨gb231, 1, none⟩ = some (.int .i64 0) := (blk_cell BK231.out 1).trans rfl; have hcz3_2 : w2.cell? ⟨gb231, 2, none⟩ = some (.int .i64 0) := (blk_cell BK231.out 2).trans rfl; have hcz3_3 : w2.cell? ⟨gb231, 3, none⟩ = some (.int .i64 0) := (blk_cell BK231.out 3).trans rfl; have hfz3_0 := blk_frozen BK231.out 0; have hfz3_1 := blk_frozen BK231.out 1; have hfz3_2 := blk_frozen BK231.out 2; have hfz3_3 := blk_frozen BK231.out 3))
  refine bodyPost_ret (results_cell_row rfl _ _ gb231 70 #[.int .i64 0, .int .i64 0, .int .i64 a0, .int .i64 9] (0, 0) _ rfl (by (with_reducible repeat (first | refine blk_drewN ?_ _ | refine blk_drew ?_ | refine blk_alloc ?_ _)); refine blk_put (cs := #[.int .i64 0, .int .i64 0, .int .i64 a0, .int .i64 0]) ?_ 3 _ rfl; (with_reducible repeat (first | refine blk_drewN ?_ _ | refine blk_drew ?_ | refine blk_alloc ?_ _)); refine blk_put (cs := #[.int .i64 0, .int .i64 0, .int .i64 0, .int .i64 0]) ?_ 2 _ rfl; (with_reducible repeat (first | refine blk_drewN ?_ _ | refine blk_drew ?_ | refine blk_alloc ?_ _)); refine blk_put (cs := #[.int .i64 0, .int .i64 0, .int .i64 0, .int .i64 0]) ?_ 1 _ rfl; (with_reducible repeat (first | refine blk_drewN ?_ _ | refine blk_drew ?_ | refine blk_alloc ?_ _)); refine blk_put (cs := #[.int .i64 0, .int .i64 0, .int .i64 0, .int .i64 0]) ?_ 0 _ rfl; (with_reducible repeat (first | refine blk_drewN ?_ _ | refine blk_drew ?_ | refine blk_alloc ?_ _)); exact BK231.out) Try.underlying70 rfl (by kernel_rfl)) rfl ?_
  exact ⟨by first | rfl | (simp [errW_none, errW_some] <;> rfl) | (simp [*, errW_none, errW_some] <;> rfl), by repeat (first | (with_reducible first | exact HB.out | apply below_alloc | apply pw_below_drewN | apply below_drew1 | refine below_set ?_ GE231.out) | exact HB.out)⟩

/-! ### chequerref02_Step: function 43 -/
def chequerref02_Step.j0 : Nat → Int → Int → Int → Bool → Option (Int × Int)
  | 0, _, _, _, _ => none
  | k + 1, x0, x1, x2, x14 => if x14 = true then (some (0, 3)) else (if x0 > (wrap64 (Int.tdiv x2 10)) then (some (0, 4)) else (if x0 = (wrap64 (Int.tdiv x2 10)) then (if (wrap64 ((wrap64 (x1)) - 48)) > (Int.tmod x2 10) then (some (0, 4)) else (some (wrap64 ((wrap64 (x0 * 10)) + (wrap64 ((wrap64 (x1)) - 48))), 0))) else (some (wrap64 ((wrap64 (x0 * 10)) + (wrap64 ((wrap64 (x1)) - 48))), 0))))
def chequerref02_Step.f (k : Nat) (a0 : Int) (a1 : Int) (a2 : Int) : Option (Int × Int) := if a1 < 48 then (chequerref02_Step.j0 k a0 a1 a2 true) else (chequerref02_Step.j0 k a0 a1 a2 (decide (a1 > 57)))
theorem chequerref02_Step.mono_l : ∀ k, (∀ y0 y1 y2 y3, LeO (chequerref02_Step.j0 k y0 y1 y2 y3) (chequerref02_Step.j0 (k + 1) y0 y1 y2 y3))
  | 0 => fun _ _ _ _ r h => by simp [chequerref02_Step.j0] at h
  | k + 1 => by
    have ih0 := chequerref02_Step.mono_l k
    · intro y0 y1 y2 y3
      unfold chequerref02_Step.j0
      repeat' first
      | (with_reducible exact ih0 _ _ _ _)
      | (with_reducible exact LeO.refl _)
      | (with_reducible exact LeO.none _)
      | (with_reducible refine LeO.ite ?_ ?_)
      | (with_reducible refine LeO.bind ?_ (fun _ => ?_))
      | exact ih0 _ _ _ _
      | exact LeO.none _
      | refine LeO.ite ?_ ?_
      | refine LeO.bind ?_ (fun _ => ?_)
theorem chequerref02_Step.mono : ∀ a0 a1 a2 k, LeO (chequerref02_Step.f k a0 a1 a2) (chequerref02_Step.f (k + 1) a0 a1 a2) := by
  intro a0 a1 a2 k
  have ih0 := chequerref02_Step.mono_l k
  unfold chequerref02_Step.f
  repeat' first
      | (with_reducible exact ih0 _ _ _ _)
      | (with_reducible exact LeO.refl _)
      | (with_reducible exact LeO.none _)
      | (with_reducible refine LeO.ite ?_ ?_)
      | (with_reducible refine LeO.bind ?_ (fun _ => ?_))
      | exact ih0 _ _ _ _
      | exact LeO.none _
      | refine LeO.ite ?_ ?_
      | refine LeO.bind ?_ (fun _ => ?_)
set_option maxHeartbeats 8000000 in
set_option maxRecDepth 100000 in
theorem chequerref02_Step.calls (k : Nat) (a0 : Int) (a1 : Int) (a2 : Int) (r1 : Int) (r2 : Int) (w : World) (h : chequerref02_Step.f k a0 a1 a2 = some (r1, r2)) :
    Calls Try.prog 43 #[.int .i64 a0, .int .u8 a1, .int .i64 a2] w fun e w' => e = .returned (.tuple #[.int .i64 r1, .int .i64 r2]) ∧ Drawn0 w w' := by
  have H : (if a1 < 48 then (chequerref02_Step.j0 k a0 a1 a2 true) else (chequerref02_Step.j0 k a0 a1 a2 (decide (a1 > 57)))) = some (r1, r2) := h
  clear h
  have HC4 := Aside0.mk H
  clear H
  go_enter Try.func43, Try.ntmps43
  go_upto_region 1 with (fail)
  go_cut [14] (fun v14 wc => ∃ (kq : Nat) (x14_3 : Bool), v14 = .bool x14_3 ∧ Aside0 (chequerref02_Step.j0 kq a0 a1 a2 x14_3 = some (r1, r2)) ∧ Aside0 (kq ≤ k) ∧ Drawn0 w wc)
  case first =>
    have H := HC4.out; clear HC4
    by_cases c5 : a1 < 48
    · rw [if_pos c5] at H
      have c5b0 : decide (a1 < 48) = true := decide_eq_true c5
      clear c5
      (first | rw [c5b0] | (simp only [i64_w, i32_w]; rw [c5b0]) | skip)
      have H' := Aside0.mk H
      clear H
      go_wp2
      go_meet
      case rel => exact ⟨_, (true), (by first | rfl | (simp; done) | (simp [*]; done)), H', ⟨by first | omega | exact Nat.le_refl _⟩, by repeat (first | exact Drawn0.refl _ | apply Drawn0.step)⟩
    rw [if_neg c5] at H
    have c5b0 : decide (a1 < 48) = false := decide_eq_false c5
    clear c5
    (first | rw [c5b0] | (simp only [i64_w, i32_w]; rw [c5b0]) | skip)
    have H' := Aside0.mk H
    clear H
    go_wp2
    go_meet
    case rel => exact ⟨_, (decide (a1 > 57)), (by first | rfl | (simp; done) | (simp [*]; done)), H', ⟨by first | omega | exact Nat.le_refl _⟩, by repeat (first | exact Drawn0.refl _ | apply Drawn0.step)⟩
  case rest =>
    clear HC4
    try clear p2
    try clear c4
    try clear c5
    try clear c5b0
    obtain ⟨kq, x14_3, rfl, HA, HJ3, ⟨mc3, rfl⟩⟩ := hcut
    cases kq with
    | zero => exact absurd HA.out (by simp [chequerref02_Step.j0])
    | succ kj3 =>
      have H := HA.out; clear HA; simp only [chequerref02_Step.j0] at H
      by_cases c6 : x14_3 = true
      · subst c6
        have H1 : (some (0, 3)) = some (r1, r2) := by rw [if_pos rfl] at H; exact H
        clear H; have H := H1; clear H1; simp only [Option.some.injEq, Prod.mk.injEq] at H; obtain ⟨rfl, rfl⟩ := H
        go_wp2
        go_ret2
        exact ⟨by first | rfl | (simp; done) | (simp [*]; done), by repeat (first | exact Drawn0.refl _ | apply Drawn0.step)⟩
      replace c6 := Bool.eq_false_iff.mpr c6; subst c6
      have H1 : (if a0 > (wrap64 (Int.tdiv a2 10)) then (some (0, 4)) else (if a0 = (wrap64 (Int.tdiv a2 10)) then (if (wrap64 ((wrap64 (a1)) - 48)) > (Int.tmod a2 10) then (some (0, 4)) else (some (wrap64 ((wrap64 (a0 * 10)) + (wrap64 ((wrap64 (a1)) - 48))), 0))) else (some (wrap64 ((wrap64 (a0 * 10)) + (wrap64 ((wrap64 (a1)) - 48))), 0)))) = some (r1, r2) := by rw [if_neg (show ¬ (false = true) by decide)] at H; exact H
      clear H; have H := H1; clear H1
      by_cases c7 : a0 > (wrap64 (Int.tdiv a2 10))
      · rw [if_pos c7] at H
        have c7b0 : decide ((wrap64 (Int.tdiv a2 10)) < a0) = true := decide_eq_true c7
        clear c7; simp only [Option.some.injEq, Prod.mk.injEq] at H; obtain ⟨rfl, rfl⟩ := H
        go_wp2
        go_ret2
        exact ⟨by first | rfl | (simp; done) | (simp [*]; done), by repeat (first | exact Drawn0.refl _ | apply Drawn0.step)⟩
      rw [if_neg c7] at H
      have c7b0 : decide ((wrap64 (Int.tdiv a2 10)) < a0) = false := decide_eq_false c7
      clear c7
      by_cases c8 : a0 = (wrap64 (Int.tdiv a2 10))
      · rw [if_pos c8] at H
        have c8b0 : (a0 == (wrap64 (Int.tdiv a2 10))) = true := beq_iff_eq.mpr c8
        have c8b1 : (a0 != (wrap64 (Int.tdiv a2 10))) = false := bne_eq_false_iff_eq.mpr c8
        clear c8
        by_cases c9 : (wrap64 ((wrap64 (a1)) - 48)) > (Int.tmod a2 10)
        · rw [if_pos c9] at H
          have c9b0 : decide ((Int.tmod a2 10) < (wrap64 ((wrap64 (a1)) - 48))) = true := decide_eq_true c9
          clear c9; simp only [Option.some.injEq, Prod.mk.injEq] at H; obtain ⟨rfl, rfl⟩ := H
          go_wp2
          go_ret2
          exact ⟨by first | rfl | (simp; done) | (simp [*]; done), by repeat (first | exact Drawn0.refl _ | apply Drawn0.step)⟩
        rw [if_neg c9] at H
        have c9b0 : decide ((Int.tmod a2 10) < (wrap64 ((wrap64 (a1)) - 48))) = false := decide_eq_false c9
        clear c9; simp only [Option.some.injEq, Prod.mk.injEq] at H; obtain ⟨rfl, rfl⟩ := H
        go_wp2
        go_ret2
        exact ⟨by first | rfl | (simp; done) | (simp [*]; done), by repeat (first | exact Drawn0.refl _ | apply Drawn0.step)⟩
      rw [if_neg c8] at H
      have c8b0 : (a0 == (wrap64 (Int.tdiv a2 10))) = false := beq_eq_false_iff_ne.mpr c8
      have c8b1 : (a0 != (wrap64 (Int.tdiv a2 10))) = true := bne_iff_ne.mpr c8
      simp only [Option.some.injEq, Prod.mk.injEq] at H; obtain ⟨rfl, rfl⟩ := H
      go_wp2
      go_ret2
      exact ⟨by first | rfl | (simp; done) | (simp [*]; done), by repeat (first | exact Drawn0.refl _ | apply Drawn0.step)⟩

end Go.Proofs.Ytmimfljiighbaaa.Q
