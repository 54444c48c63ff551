-- written by our own program (wip/tools/myprint.py) out of the translation, by the kit's print; Lean checks it
import Derived.Test.YtidpaaemfiopkaaQ0
import Derived.Test.YtidpaaemfiopkaaQ2
import Derived.Test.YtidpaaemfiopkaaQ9
namespace Go.Proofs.Ytidpaaemfiopkaa.Q
open Go.RowKit Go.Proofs.YtidpaaemfiopkaaW.PrintWords Go.Proofs.YtidpaaemfiopkaaW.PrintLast Go.Proofs.YtidpaaemfiopkaaW.PrintMore
attribute [local go_sem] max2_int min2_int max_two min_two max_three min_three max_four min_four   -- for this text's walks alone
set_option linter.unusedVariables false
set_option linter.unusedSimpArgs false

abbrev Fl167 : Array Bool := #[false, false, false, false, false, false, false, false, false, false]
abbrev Fl168 : Array Bool := #[true, false, false, false, false, false, false, false, false, false]
abbrev Fl169 : Array Bool := #[true, true, false, false, false, false, false, false, false, false]
abbrev Fl170 : Array Bool := #[true, true, true, false, false, false, false, false, false, false]
abbrev Fl171 : Array Bool := #[true, true, true, false, false, true, false, false, false, false]
abbrev Fl172 : Array Bool := #[true, true, true, false, false, true, true, false, false, false]
abbrev Fl173 : Array Bool := #[true, true, true, true, false, true, true, false, false, false]
abbrev Fl174 : Array Bool := #[true, true, true, true, true, true, true, false, false, false]
abbrev Fl175 : Array Bool := #[true, true, true, true, true, true, true, true, false, false]
abbrev Fl176 : Array Bool := #[true, true, true, true, true, true, true, true, true, false]
abbrev Fl177 : Array Bool := #[true, true, true, true, true, true, true, true, true, true]
/-! ### chequerref03_Of: function 30 -/
def chequerref03_Of.l0 : Nat → List (List Int) → Int → Int → Int → List Int → Option (Int × Int × List Int × Int)
 | 0, _, _, _, _, _ => none
 | k + 1, x0, x5, x454000, x454001, x454002 => if x5 < (x0.length : Int) then (if 0 ≤ x5 then (if 0 < (x0.length : Int) then (if ((rd_L2 x0 x5).length : Int) = ((rd_L2 x0 0).length : Int) then (if x454002.length + (rd_L2 x0 x5).length < 17592186044416 then (chequerref03_Of.l0 k x0 (wrap64 (x5 + 1)) ((rd_L2 x0 x5).length : Int) (wrap64 (x454001 + 1)) (x454002 ++ (rd_L2 x0 x5))) else (none)) else (some (0, 0, ([] : List Int), 1))) else (none)) else (none)) else ((chequerref03_May.f x454000 x454001 x454002).bind fun t461 => (if t461 = true then (some (x454000, x454001, x454002, 0)) else (some (0, 0, ([] : List Int), 1))))
def chequerref03_Of.f (k : Nat) (l0 : List (List Int)) : Option (Int × Int × List Int × Int) := chequerref03_Of.l0 k l0 0 0 0 ([] : List Int)
theorem chequerref03_Of.mono_l : ∀ k, (∀ y0 y1 y2 y3 y4, LeO (chequerref03_Of.l0 k y0 y1 y2 y3 y4) (chequerref03_Of.l0 (k + 1) y0 y1 y2 y3 y4))
 | 0 => fun _ _ _ _ _ r h => by simp [chequerref03_Of.l0] at h
 | k + 1 => by
  have ih0 := chequerref03_Of.mono_l k
  · intro y0 y1 y2 y3 y4
    unfold chequerref03_Of.l0
    repeat' first
    | (with_reducible exact ih0 _ _ _ _ _)
    | (with_reducible exact LeO.refl _)
    | (with_reducible exact LeO.none _)
    | (with_reducible refine LeO.ite ?_ ?_)
    | (with_reducible refine LeO.bind ?_ (fun _ => ?_))
    | exact ih0 _ _ _ _ _
    | exact LeO.none _
    | refine LeO.ite ?_ ?_
    | refine LeO.bind ?_ (fun _ => ?_)
theorem chequerref03_Of.mono : ∀ a0 k, LeO (chequerref03_Of.f k a0) (chequerref03_Of.f (k + 1) a0) := by
 intro a0 k
 have ih0 := chequerref03_Of.mono_l k
 unfold chequerref03_Of.f
 repeat' first
  | (with_reducible exact ih0 _ _ _ _ _)
  | (with_reducible exact LeO.refl _)
  | (with_reducible exact LeO.none _)
  | (with_reducible refine LeO.ite ?_ ?_)
  | (with_reducible refine LeO.bind ?_ (fun _ => ?_))
  | exact ih0 _ _ _ _ _
  | exact LeO.none _
  | refine LeO.ite ?_ ?_
  | refine LeO.bind ?_ (fun _ => ?_)
def chequerref03_Of.T5 : Bool × List (List Nat × List Nat) := (true, [([], []), ([], []), ([0, 1], [0, 1]), ([2], [2]), ([3], [3]), ([], []), ([5], [5]), ([6], [6]), ([7], [7]), ([4, 8], [4, 8])])
def chequerref03_Of.B5 : List Nat := [0, 0, 3, 7, 15, 0, 32, 96, 224, 511]
theorem chequerref03_Of.tab5 : rtab .any (opsOf Try.f30 5) = chequerref03_Of.T5 := by kernel_rfl
theorem chequerref03_Of.bits5 : waitsOk chequerref03_Of.T5.2 chequerref03_Of.B5 = true := by kernel_rfl
def chequerref03_Of.T9 : Bool × List (List Nat × List Nat) := (true, [([], []), ([0], [0]), ([], []), ([], []), ([2, 3], [2, 3]), ([4], [4]), ([1, 5], [1, 5]), ([0, 1, 2, 3, 4, 5, 6], []), ([7, 6, 6, 0, 1, 2, 3, 4, 5, 6], [6, 7])])
def chequerref03_Of.B9 : List Nat := [0, 1, 0, 0, 12, 28, 63, 127, 255]
theorem chequerref03_Of.tab9 : rtab .any (opsOf Try.f30 9) = chequerref03_Of.T9 := by kernel_rfl
theorem chequerref03_Of.bits9 : waitsOk chequerref03_Of.T9.2 chequerref03_Of.B9 = true := by kernel_rfl
set_option maxHeartbeats 8000000 in
set_option maxRecDepth 100000 in
theorem chequerref03_Of.calls (k : Nat) (A0 : Option Addr) (c0 : Nat) (l0 : List (List Int)) (r1 : Int) (r2 : Int) (r3 : List Int) (r4 : Int) (w : World) (hr0 : Kd.C (Kd.slice 46 (Kd.int .u64)) w A0 l0.length l0) (hc0 : l0.length ≤ c0) (h : chequerref03_Of.f k l0 = some (r1, r2, r3, r4)) :
 Calls Try.prog 30 #[.slice A0 l0.length c0] w fun e w' => ∃ v2_ : Value, e = .returned (.tuple #[.agg #[.int .i64 r1, .int .i64 r2, v2_], .int .i64 r4]) ∧ Kd.R (Kd.int .u64) 46 w' w.heap.size (fun _ => True) v2_ r3 ∧ Below w.heap.size w w' := by
 have hu24 := Try.underlying24
 have HR0 := Aside0.mk hr0
 have HC0 := Aside0.mk hc0
 clear hr0 hc0
 have HB := Aside0.mk (Below.refl w.heap.size w)
 have H : (chequerref03_Of.l0 k l0 0 0 0 ([] : List Int)) = some (r1, r2, r3, r4) := h
 clear h
 have H' := Aside0.mk H
 clear H
 go_enter Try.func30, Try.ntmps30
 go_wp2_with (first | ((with_reducible refine gate_dst (N := 2) rfl ?_); refine box_event ?hg (N := 2) ?hd (cs := #[.int .i64 0, .int .i64 0, .slice none 0 0]) (t := 24) ?hr ?_; (case hd => rfl); (case hg => rfl); (case hr => first | (go_simp; done) | (go_simp; rfl)); intro gb452 hg w2 hbox hb; have BK452 := Aside0.mk (hbox); have GW452 := Aside0.mk ((by rw [hg]; exact (below_size bp_) : w.heap.size ≤ gb452)); have GE452 := Aside0.mk ((by rw [hg]; exact (below_size bp_) : w.heap.size ≤ gb452)); replace HB := Aside0.mk (below_step bp_ hb); clear hb hbox hg) | ((with_reducible refine gate_dst (N := 4) rfl ?_); refine box_event ?hg (N := 4) ?hd (cs := #[.int .i64 0, .int .i64 0, .slice none 0 0]) (t := 24) ?hr ?_; (case hd => rfl); (case hg => rfl); (case hr => first | (go_simp; done) | (go_simp; rfl)); intro gb453 hg w3 hbox hb; have BK453 := Aside0.mk (hbox); have GW453 := Aside0.mk ((by rw [hg]; exact (below_size bp_) : w.heap.size ≤ gb453)); have GE453 := Aside0.mk ((by rw [hg]; exact (below_size bp_) : w.heap.size ≤ gb453)); replace HB := Aside0.mk (below_step bp_ hb); have NB452_453 := Aside0.mk ((nlt_ hg (hp_ BK452.out))); have NB453_452 := Aside0.mk ((ngt_ hg (hp_ BK452.out))); replace BK452 := kb_ BK452.out hb; clear hb hbox hg))
 go_loopg [5] k (fun kq v5 w' => ∃ (x5_1 : Int) (x453000_1 : Int) (x453001_1 : Int) (x454000_1 : Int) (x454001_1 : Int) (x454002_1 : List Int) (u454002 : Value), v5 = .int .i64 x5_1 ∧ Aside0 (chequerref03_Of.l0 kq l0 x5_1 x454000_1 x454001_1 x454002_1 = some (r1, r2, r3, r4)) ∧ Aside0 (kq ≤ k) ∧ Aside0 (Kd.R (Kd.int .u64) 46 w' w.heap.size (fun _ => True) u454002 x454002_1) ∧ Aside0 (w'.heap[gb452]? = some (.cells #[.int .i64 x453000_1, .int .i64 x453001_1, (.slice none 0 0)] 24 (0, 0))) ∧ Aside0 (w'.heap[gb453]? = some (.cells #[.int .i64 x454000_1, .int .i64 x454001_1, u454002] 24 (0, 0))) ∧ Aside0 (Below w.heap.size w w'))
 case atStart => exact ⟨(0), (0), (0), (0), (0), (([] : List Int)), (.slice none 0 0), (by first | rfl | (simp; done) | (simp [*]; done)), H', ⟨Nat.le_refl _⟩, ⟨by first | exact Kd.R_nil _ _ _ _ _ | exact Kd.N_nil _ _ _ _ _ | exact Kd.V_nil _ _ _ _ _ | exact Kd.Q_nil _ _ _ _ _ | exact Kd.S_nil _ _ _ _ _⟩, ⟨hp_ BK452.out⟩, ⟨hp_ BK453.out⟩, ⟨bp_⟩⟩
 case round =>
  clear H'
  try clear p2
  try clear c3
  obtain ⟨x5_1, x453000_1, x453001_1, x454000_1, x454001_1, x454002_1, u454002, rfl, HA, HK1, HO_454002, BK452, BK453, HB⟩ := hrel
  cases gk with
  | zero => exact absurd HA.out (by simp [chequerref03_Of.l0])
  | succ k1 =>
   have H := HA.out; clear HA; simp only [chequerref03_Of.l0] at H
   by_cases c4 : x5_1 < (l0.length : Int)
   · rw [if_pos c4] at H
     have c4b0 : decide (x5_1 < (l0.length : Int)) = true := decide_eq_true c4
     clear c4
     by_cases c5 : 0 ≤ x5_1
     · rw [if_pos c5] at H
       have c5b0 : decide (0 ≤ x5_1) = true := decide_eq_true c5
       clear c5
       by_cases c6 : 0 < (l0.length : Int)
       · rw [if_pos c6] at H
         have c6b0 : decide (0 < (l0.length : Int)) = true := decide_eq_true c6
         have c6b1 : decide (0 < l0.length) = true := decide_eq_true (by omega)
         clear c6
         by_cases c7 : ((rd_L2 l0 x5_1).length : Int) = ((rd_L2 l0 0).length : Int)
         · rw [if_pos c7] at H
           have c7b0 : (((rd_L2 l0 x5_1).length : Int) == ((rd_L2 l0 0).length : Int)) = true := beq_iff_eq.mpr c7
           have c7b1 : (((rd_L2 l0 x5_1).length : Int) != ((rd_L2 l0 0).length : Int)) = false := bne_eq_false_iff_eq.mpr c7
           have c7b2 : ((rd_L2 l0 x5_1).length == (rd_L2 l0 0).length) = true := by first | simpa using c7 | (simp at c7 ⊢; omega)
           clear c7
           by_cases c8 : x454002_1.length + (rd_L2 l0 x5_1).length < 17592186044416
           · rw [if_pos c8] at H; have LMc8 := Aside0.mk c8; clear c8
             obtain ⟨y458, hy458⟩ : ∃ y_ : List Int, y_ = (x454002_1 ++ (rd_L2 l0 x5_1)) := ⟨_, rfl⟩
             replace H : (chequerref03_Of.l0 k1 l0 (wrap64 (x5_1 + 1)) ((rd_L2 l0 x5_1).length : Int) (wrap64 (x454001_1 + 1)) y458) = some (r1, r2, r3, r4) := by first | (rw [hy458]; with_reducible exact H) | (have H2_ := (Option.bind_some _ _).symm.trans H; rw [hy458]; with_reducible exact H2_) | (have H2_ := (Option.bind_some _ _).symm.trans H; with_reducible exact H2_) | with_reducible exact H | (rw [hy458]; exact H) | exact H
             have Ny458 := Aside0.mk hy458; clear hy458
             have H' := Aside0.mk H
             clear H
             try go_wp2
             (try (rw [drewN_self wr]; generalize hq_ : World.drewN wr _ = wr; have n0_ := Aside0.mk (qrp_ hq_ HO_454002.out); have n1_ := Aside0.mk (qhp_ hq_ BK452.out); have n2_ := Aside0.mk (qhp_ hq_ BK453.out); have n3_ : Aside0 (Below w.heap.size w wr) := ⟨qbp_ hq_⟩; clear HO_454002 BK452 BK453 HB hq_; have HO_454002 := n0_; have BK452 := n1_; have BK453 := n2_; have HB := n3_; clear n0_ n1_ n2_ n3_))
             replace HO_454002 := Aside0.mk (Kd.R_drew HO_454002.out); replace BK452 := Aside0.mk (blk_drew BK452.out); replace BK453 := Aside0.mk (blk_drew BK453.out); replace HB := Aside0.mk (below_drew1 HB.out)
             have p454 : 0 ≤ (x5_1 : Int) := of_decide_eq_true (by first | (with_reducible assumption) | assumption)
             have q454 : x5_1 < (l0.length : Int) := of_decide_eq_true (by first | (with_reducible assumption) | assumption)
             obtain ⟨ad454, A454_0, c454_0, e454, hx454_0, hl454_0, hi454_0⟩ := at_L2 HR0.out x5_1 p454 q454
             have hw454_0 := hx454_0
             cases e454
             replace hx454_0 := (HB.out.cell (World.block_lt_of_cell? w _ hx454_0)).trans hx454_0; have HR454_0 := Aside0.mk hi454_0; have HC454_0 := Aside0.mk hl454_0; clear hi454_0 hl454_0; replace p454 := eq_true p454; replace q454 := eq_true q454
             have p455 : 0 ≤ (0 : Int) := (by omega)
             have q455 : 0 < (l0.length : Int) := of_decide_eq_true (by first | (with_reducible assumption) | assumption)
             obtain ⟨ad455, A455_0, c455_0, e455, hx455_0, hl455_0, hi455_0⟩ := at_L2 HR0.out 0 p455 q455
             have hw455_0 := hx455_0
             (try rw [show ((0 : Int)).toNat = 0 from rfl] at hw455_0)
             (try rw [show 0 * 1 = 0 from rfl] at hw455_0)
             (try rw [Addr.add_zero'] at hw455_0)
             obtain rfl : ad454 = ad455 := (by injection e455)
             have qi455 : (0 < l0.length) = True := eq_true (by omega)
             (try rw [show ((0 : Int)).toNat = 0 from rfl] at hx455_0)
             (try rw [Addr.add_zero'] at hx455_0)
             replace hx455_0 := (HB.out.cell (World.block_lt_of_cell? w _ hx455_0)).trans hx455_0; have HR455_0 := Aside0.mk hi455_0; have HC455_0 := Aside0.mk hl455_0; clear hi455_0 hl455_0; replace p455 := eq_true p455; replace q455 := eq_true q455; refine start_ (n := 10) (S := fun w' => w'.cell? (ad454.add (x5_1).toNat) = some (.slice A454_0 (rd_L2 l0 x5_1).length c454_0) ∧ w'.cell? ad454 = some (.slice A455_0 (rd_L2 l0 0).length c455_0)) (ds := []) Fl167 (by kernel_rfl) rfl rfl ⟨((HB.out.cell (World.block_lt_of_cell? w _ hw454_0)).trans hw454_0), ((HB.out.cell (World.block_lt_of_cell? w _ hw455_0)).trans hw455_0)⟩ (fun hHeld => ?_); refine with_tabW chequerref03_Of.tab5 chequerref03_Of.bits5 (fun HT_ HW_ => ?_)
             generalize wr.drew = w9 at HO_454002 BK452 BK453 HB HR454_0 HR455_0 hx454_0 hx455_0 hHeld ⊢
             refine pur_ (i := 0) (N := some 13) Fl168 (any_of HT_.out (by kernel_rfl)) ?_; refine pur_ (i := 1) (N := some 14) Fl169 (any_of HT_.out (by kernel_rfl)) ?_; refine pur_ (i := 2) (N := some 15) Fl170 (any_of HT_.out (by kernel_rfl)) ?_; refine pur_ (i := 5) (N := some 18) Fl171 (any_of HT_.out (by kernel_rfl)) ?_; refine pur_ (i := 6) (N := some 19) Fl172 (any_of HT_.out (by kernel_rfl)) ?_; refine tak_ (i := 3) (N := some 16) Fl173 (take_ofW HT_.out HW_.out (by kernel_rfl)) hHeld ?_; refine pur_ (i := 4) (N := some 17) Fl174 (any_of HT_.out (by kernel_rfl)) ?_; refine tak_ (i := 7) (N := some 20) Fl175 (take_ofW HT_.out HW_.out (by kernel_rfl)) hHeld ?_; refine pur_ (i := 8) (N := some 21) Fl176 (any_of HT_.out (by kernel_rfl)) ?_; refine pur_ (i := 9) (N := some 22) Fl177 (any_of HT_.out (by kernel_rfl)) ?_; refine done_ (done_of HT_.out (by kernel_rfl)) ?_
             have p456 : 0 ≤ (x5_1 : Int) := of_decide_eq_true (by first | (with_reducible assumption) | assumption)
             have q456 : x5_1 < (l0.length : Int) := of_decide_eq_true (by first | (with_reducible assumption) | assumption)
             obtain ⟨ad456, A456_0, c456_0, e456, hx456_0, hl456_0, hi456_0⟩ := at_L2 HR0.out x5_1 p456 q456
             obtain rfl : ad454 = ad456 := (by injection e456)
             replace hx456_0 := (HB.out.cell (World.block_lt_of_cell? w _ hx456_0)).trans hx456_0; have HR456_0 := Aside0.mk hi456_0; have HC456_0 := Aside0.mk hl456_0; clear hi456_0 hl456_0; replace p456 := eq_true p456; replace q456 := eq_true q456; have ea_ := Option.some.inj (hx454_0.symm.trans hx456_0)
             injection ea_ with ea_ en_ ec_
             subst ea_; subst ec_; clear en_; have hnb10 := NB453_452.out; have hnc10 := NB452_453.out
             have hcz11_0 : w9.cell? ⟨gb453, 0, none⟩ = some (.int .i64 x454000_1) := bc_ BK453.out 0
             have hcz11_1 : w9.cell? ⟨gb453, 1, none⟩ = some (.int .i64 x454001_1) := bc_ BK453.out 1
             have hcz11_2 : w9.cell? ⟨gb453, 2, none⟩ = some (u454002) := bc_ BK453.out 2
             have hfz11_0 := blk_frozen BK453.out 0; have hfz11_1 := blk_frozen BK453.out 1; have hfz11_2 := blk_frozen BK453.out 2
             try go_wp2
             generalize hW_ : ((w9.setCell ⟨gb453, 0, none⟩ (.int .i64 ((rd_L2 l0 x5_1).length : Int))).setCell ⟨gb453, 1, none⟩ (.int .i64 (wrap64 (x454001_1 + 1)))) = w12
             replace HO_454002 := Aside0.mk (rw_ hW_ HO_454002.out BK453.out); replace BK452 := Aside0.mk (bw_ hW_ BK452.out NB452_453.out)
             replace BK453 : Aside0 (w12.heap[gb453]? = some (.cells #[.int .i64 ((rd_L2 l0 x5_1).length : Int), .int .i64 (wrap64 (x454001_1 + 1)), u454002] 24 (0, 0))) := ⟨by rw [← hW_]; exact (by (with_reducible repeat (first | refine blk_drewN ?_ _ | refine blk_drew ?_ | refine blk_alloc ?_ _)); refine blk_put (cs := #[.int .i64 ((rd_L2 l0 x5_1).length : Int), .int .i64 x454001_1, u454002]) ?_ 1 _ rfl; (with_reducible repeat (first | refine blk_drewN ?_ _ | refine blk_drew ?_ | refine blk_alloc ?_ _)); refine blk_put (cs := #[.int .i64 x454000_1, .int .i64 x454001_1, u454002]) ?_ 0 _ rfl; (with_reducible repeat (first | refine blk_drewN ?_ _ | refine blk_drew ?_ | refine blk_alloc ?_ _)); exact BK453.out)⟩
             replace HB : Aside0 (Below w.heap.size w w12) := ⟨by rw [← hW_]; exact bp_⟩
             clear hW_; replace HO_454002 := Aside0.mk (Kd.R_drew HO_454002.out); replace BK452 := Aside0.mk (blk_drew BK452.out); replace BK453 := Aside0.mk (blk_drew BK453.out); replace HB := Aside0.mk (below_drew1 HB.out)
             have p457 : 0 ≤ (x5_1 : Int) := of_decide_eq_true (by first | (with_reducible assumption) | assumption)
             have q457 : x5_1 < (l0.length : Int) := of_decide_eq_true (by first | (with_reducible assumption) | assumption)
             obtain ⟨ad457, A457_0, c457_0, e457, hx457_0, hl457_0, hi457_0⟩ := at_L2 HR0.out x5_1 p457 q457
             have hw457_0 := hx457_0
             obtain rfl : ad454 = ad457 := (by injection e457)
             replace hx457_0 := (HB.out.cell (World.block_lt_of_cell? w _ hx457_0)).trans hx457_0; have HR457_0 := Aside0.mk hi457_0; have HC457_0 := Aside0.mk hl457_0; clear hi457_0 hl457_0; replace p457 := eq_true p457; replace q457 := eq_true q457; refine start_ (n := 9) (S := fun w' => w'.cell? ⟨gb453, 0, none⟩ = some (.int .i64 ((rd_L2 l0 x5_1).length : Int)) ∧ w'.cell? ⟨gb453, 1, none⟩ = some (.int .i64 (wrap64 (x454001_1 + 1))) ∧ w'.cell? ⟨gb453, 2, none⟩ = some (u454002) ∧ w'.cell? (ad454.add (x5_1).toNat) = some (.slice A457_0 (rd_L2 l0 x5_1).length c457_0)) (ds := [8]) #[false, false, false, false, false, false, false, false, false] (by kernel_rfl) rfl rfl ⟨bc_ BK453.out 0, bc_ BK453.out 1, bc_ BK453.out 2, ((HB.out.cell (World.block_lt_of_cell? w _ hw457_0)).trans hw457_0)⟩ (fun hHeld => ?_); refine with_tabW chequerref03_Of.tab9 chequerref03_Of.bits9 (fun HT_ HW_ => ?_)
             generalize w12.drew = w13 at HO_454002 BK452 BK453 HB HR457_0 hx457_0 hHeld ⊢
             refine pur_ (i := 0) (N := some 34) #[true, false, false, false, false, false, false, false, false] (any_of HT_.out (by kernel_rfl)) ?_; refine pur_ (i := 2) (N := some 36) #[true, false, true, false, false, false, false, false, false] (any_of HT_.out (by kernel_rfl)) ?_; refine pur_ (i := 3) (N := some 37) #[true, false, true, true, false, false, false, false, false] (any_of HT_.out (by kernel_rfl)) ?_; refine pur_ (i := 4) (N := some 38) #[true, false, true, true, true, false, false, false, false] (any_of HT_.out (by kernel_rfl)) ?_; refine tak_ (i := 1) (N := some 35) #[true, true, true, true, true, false, false, false, false] (take_ofW HT_.out HW_.out (by kernel_rfl)) hHeld ?_; refine tak_ (i := 5) (N := some 39) #[true, true, true, true, true, true, false, false, false] (take_ofW HT_.out HW_.out (by kernel_rfl)) hHeld ?_; refine one_ (i := 6) (N := some 40) #[true, true, true, true, true, true, true, false, false] rfl rfl (one_of HT_.out (by kernel_rfl)) (by decide) (fun K hK => ?_); refine Kd.R_append_rows_step (Kd.int .u64) (w0 := w) w.heap.size (by rfl) (.tmp 35) (.tmp 39) 22 46 (.int .u64 0) 8 rfl Try.underlying22 info46 rfl (by decide) (by omega) u454002 x454002_1 (rd_L2 l0 x5_1) _ _ _ (fun _ => True) (fun _ => False) rfl rfl ?aO ?aR (fun _ _ h => h) (fun _ h => h.elim) ?aF ?aB ?aS ?aL ?_
             (case aR => repeat (first | exact (Kd.C_below HR457_0.out HB.out) | (with_reducible refine Kd.C_alloc ?_ _) | (with_reducible refine Kd.C_drewN ?_ _) | (with_reducible refine Kd.C_drew ?_)))
             (case aB => exact bp_)
             (case aF => exact (fun _ _ => trivial))
             (case aO => exact (rp_ HO_454002.out))
             (case aS => exact (below_size bp_))
             (case aL => have := LMc8.out; omega)
             intro v459 w14 ho hb hg hat
             rw [← Ny458.out] at ho; replace BK452 := Aside0.mk (blk_grown (g := gb452) (o := .cells #[.int .i64 x453000_1, .int .i64 x453001_1, .slice none 0 0] 24 (0, 0)) (hp_ BK452.out) hg (Kd.R_ne HO_454002.out BK452.out (by decide))); replace BK453 := Aside0.mk (blk_grown (g := gb453) (o := .cells #[.int .i64 ((rd_L2 l0 x5_1).length : Int), .int .i64 (wrap64 (x454001_1 + 1)), u454002] 24 (0, 0)) (hp_ BK453.out) hg (Kd.R_ne HO_454002.out BK453.out (by decide))); replace HB := Aside0.mk (hb); have HO460 := Aside0.mk (ho); clear HO_454002; clear ho hb hg hat
             obtain ⟨Ao15, co15, eo15⟩ := Kd.R_slice HO460.out
             (first | subst eo15 | (injection eo15 with f1_ f2_ f3_; have f4_ := f1_.symm; have f5_ := f3_.symm; clear f1_ f2_ f3_; subst f4_; subst f5_))
             refine hK.out _ _ ⟨bc_ BK453.out 0, bc_ BK453.out 1, bc_ BK453.out 2, ((HB.out.cell (World.block_lt_of_cell? w _ hw457_0)).trans hw457_0)⟩ (fun hHeld => ?_); clear hK K; refine nor_ (some 40) ?_; refine pur_ (i := 7) (N := some 41) #[true, true, true, true, true, true, true, true, false] (any_of HT_.out (by kernel_rfl)) ?_; refine last_ (i := 8) (N := none) #[true, true, true, true, true, true, true, true, true] rfl rfl (one_of HT_.out (by kernel_rfl)) (by decide) (fun K hK => ?_)
             have hs16 : w14.cell? ⟨gb453, 2, none⟩ = some (u454002) := bc_ BK453.out 2
             have hfs16 := blk_frozen BK453.out 2; have hns16_0 := NB452_453.out; have hms16_0 := NB453_452.out; refine skip_ (w1 := ?_) (by rfl) rfl ?_ ?_; rotate_left
             · go_simp; rfl
             refine hK.out _ _ ?_; clear hK K; refine done_ (done_of HT_.out (by kernel_rfl)) ?_
             try go_wp2
             go_roundg k1
             case measure => have := HK1.out; omega
             case rel => exact ⟨(wrap64 (x5_1 + 1)), (x453000_1), (x453001_1), (((rd_L2 l0 x5_1).length : Int)), (wrap64 (x454001_1 + 1)), (y458), (.slice Ao15 y458.length co15), (by first | rfl | (simp; done) | (simp [*]; done)), H', ⟨by have := HK1.out; omega⟩, ⟨rf_ HO460.out BK453.out (by decide) (fun _ hk => trivial)⟩, ⟨hf_ BK452.out NB452_453.out⟩, ⟨by (with_reducible repeat (first | refine blk_drewN ?_ _ | refine blk_drew ?_ | refine blk_alloc ?_ _)); refine blk_put (cs := #[.int .i64 ((rd_L2 l0 x5_1).length : Int), .int .i64 (wrap64 (x454001_1 + 1)), u454002]) ?_ 2 _ rfl; (with_reducible repeat (first | refine blk_drewN ?_ _ | refine blk_drew ?_ | refine blk_alloc ?_ _)); exact BK453.out⟩, ⟨bp_⟩⟩
           rw [if_neg c8] at H
           exact absurd H (by simp)
         rw [if_neg c7] at H
         have c7b0 : (((rd_L2 l0 x5_1).length : Int) == ((rd_L2 l0 0).length : Int)) = false := beq_eq_false_iff_ne.mpr c7
         have c7b1 : (((rd_L2 l0 x5_1).length : Int) != ((rd_L2 l0 0).length : Int)) = true := bne_iff_ne.mpr c7
         have c7b2 : ((rd_L2 l0 x5_1).length == (rd_L2 l0 0).length) = false := by first | simpa using c7 | (simp at c7 ⊢; omega)
         simp only [Option.some.injEq, Prod.mk.injEq] at H; obtain ⟨rfl, rfl, rfl, rfl⟩ := H
         try go_wp2
         (try (rw [drewN_self wr]; generalize hq_ : World.drewN wr _ = wr; have n0_ := Aside0.mk (qrp_ hq_ HO_454002.out); have n1_ := Aside0.mk (qhp_ hq_ BK452.out); have n2_ : Aside0 (Below w.heap.size w wr) := ⟨qbp_ hq_⟩; clear HO_454002 BK452 HB hq_; have HO_454002 := n0_; have BK452 := n1_; have HB := n2_; clear n0_ n1_ n2_))
         replace HO_454002 := Aside0.mk (Kd.R_drew HO_454002.out); replace BK452 := Aside0.mk (blk_drew BK452.out); replace HB := Aside0.mk (below_drew1 HB.out)
         have p454 : 0 ≤ (x5_1 : Int) := of_decide_eq_true (by first | (with_reducible assumption) | assumption)
         have q454 : x5_1 < (l0.length : Int) := of_decide_eq_true (by first | (with_reducible assumption) | assumption)
         obtain ⟨ad454, A454_0, c454_0, e454, hx454_0, hl454_0, hi454_0⟩ := at_L2 HR0.out x5_1 p454 q454
         have hw454_0 := hx454_0
         cases e454
         replace hx454_0 := (HB.out.cell (World.block_lt_of_cell? w _ hx454_0)).trans hx454_0; have HR454_0 := Aside0.mk hi454_0; have HC454_0 := Aside0.mk hl454_0; clear hi454_0 hl454_0; replace p454 := eq_true p454; replace q454 := eq_true q454
         have p455 : 0 ≤ (0 : Int) := (by omega)
         have q455 : 0 < (l0.length : Int) := of_decide_eq_true (by first | (with_reducible assumption) | assumption)
         obtain ⟨ad455, A455_0, c455_0, e455, hx455_0, hl455_0, hi455_0⟩ := at_L2 HR0.out 0 p455 q455
         have hw455_0 := hx455_0
         (try rw [show ((0 : Int)).toNat = 0 from rfl] at hw455_0)
         (try rw [show 0 * 1 = 0 from rfl] at hw455_0)
         (try rw [Addr.add_zero'] at hw455_0)
         obtain rfl : ad454 = ad455 := (by injection e455)
         have qi455 : (0 < l0.length) = True := eq_true (by omega)
         (try rw [show ((0 : Int)).toNat = 0 from rfl] at hx455_0)
         (try rw [Addr.add_zero'] at hx455_0)
         replace hx455_0 := (HB.out.cell (World.block_lt_of_cell? w _ hx455_0)).trans hx455_0; have HR455_0 := Aside0.mk hi455_0; have HC455_0 := Aside0.mk hl455_0; clear hi455_0 hl455_0; replace p455 := eq_true p455; replace q455 := eq_true q455; refine start_ (n := 10) (S := fun w' => w'.cell? (ad454.add (x5_1).toNat) = some (.slice A454_0 (rd_L2 l0 x5_1).length c454_0) ∧ w'.cell? ad454 = some (.slice A455_0 (rd_L2 l0 0).length c455_0)) (ds := []) Fl167 (by kernel_rfl) rfl rfl ⟨((HB.out.cell (World.block_lt_of_cell? w _ hw454_0)).trans hw454_0), ((HB.out.cell (World.block_lt_of_cell? w _ hw455_0)).trans hw455_0)⟩ (fun hHeld => ?_); refine with_tabW chequerref03_Of.tab5 chequerref03_Of.bits5 (fun HT_ HW_ => ?_)
         generalize wr.drew = w17 at HO_454002 BK452 HB HR454_0 HR455_0 hx454_0 hx455_0 hHeld ⊢
         refine pur_ (i := 0) (N := some 13) Fl168 (any_of HT_.out (by kernel_rfl)) ?_; refine pur_ (i := 1) (N := some 14) Fl169 (any_of HT_.out (by kernel_rfl)) ?_; refine pur_ (i := 2) (N := some 15) Fl170 (any_of HT_.out (by kernel_rfl)) ?_; refine pur_ (i := 5) (N := some 18) Fl171 (any_of HT_.out (by kernel_rfl)) ?_; refine pur_ (i := 6) (N := some 19) Fl172 (any_of HT_.out (by kernel_rfl)) ?_; refine tak_ (i := 3) (N := some 16) Fl173 (take_ofW HT_.out HW_.out (by kernel_rfl)) hHeld ?_; refine pur_ (i := 4) (N := some 17) Fl174 (any_of HT_.out (by kernel_rfl)) ?_; refine tak_ (i := 7) (N := some 20) Fl175 (take_ofW HT_.out HW_.out (by kernel_rfl)) hHeld ?_; refine pur_ (i := 8) (N := some 21) Fl176 (any_of HT_.out (by kernel_rfl)) ?_; refine pur_ (i := 9) (N := some 22) Fl177 (any_of HT_.out (by kernel_rfl)) ?_; refine done_ (done_of HT_.out (by kernel_rfl)) ?_
         have hcz18_0 : w17.cell? ⟨gb452, 0, none⟩ = some (.int .i64 x453000_1) := bc_ BK452.out 0
         have hcz18_1 : w17.cell? ⟨gb452, 1, none⟩ = some (.int .i64 x453001_1) := bc_ BK452.out 1
         have hcz18_2 : w17.cell? ⟨gb452, 2, none⟩ = some (.slice none 0 0) := bc_ BK452.out 2
         have hfz18_0 := blk_frozen BK452.out 0; have hfz18_1 := blk_frozen BK452.out 1; have hfz18_2 := blk_frozen BK452.out 2
         try go_wp2
         refine bodyPost_ret (results_ct rfl _ _ gb452 24 #[.int .i64 0, .int .i64 0, .slice none 0 0] (0, 0) _ rfl (by (with_reducible repeat (first | refine blk_drewN ?_ _ | refine blk_drew ?_ | refine blk_alloc ?_ _)); refine blk_put (cs := #[.int .i64 0, .int .i64 0, .slice none 0 0]) ?_ 2 _ rfl; (with_reducible repeat (first | refine blk_drewN ?_ _ | refine blk_drew ?_ | refine blk_alloc ?_ _)); refine blk_put (cs := #[.int .i64 0, .int .i64 x453001_1, .slice none 0 0]) ?_ 1 _ rfl; (with_reducible repeat (first | refine blk_drewN ?_ _ | refine blk_drew ?_ | refine blk_alloc ?_ _)); refine blk_put (cs := #[.int .i64 x453000_1, .int .i64 x453001_1, .slice none 0 0]) ?_ 0 _ rfl; (with_reducible repeat (first | refine blk_drewN ?_ _ | refine blk_drew ?_ | refine blk_alloc ?_ _)); exact BK452.out) Try.underlying24 rfl (by kernel_rfl)) rfl ?_
         exact ⟨_, by first | rfl | (simp [errW_none, errW_some] <;> rfl) | (simp [*, errW_none, errW_some] <;> rfl), by first | exact Kd.R_nil _ _ _ _ _ | exact Kd.N_nil _ _ _ _ _ | exact Kd.V_nil _ _ _ _ _ | exact Kd.Q_nil _ _ _ _ _ | exact Kd.S_nil _ _ _ _ _, bp_⟩
       rw [if_neg c6] at H
       exact absurd H (by simp)
     rw [if_neg c5] at H
     exact absurd H (by simp)
   rw [if_neg c4] at H
   have c4b0 : decide (x5_1 < (l0.length : Int)) = false := decide_eq_false c4
   clear c4; replace H := Option.bind_eq_some_iff.mp H; obtain ⟨t461, A190, H⟩ := H
   replace H : (if t461 = true then (some (x454000_1, x454001_1, x454002_1, 0)) else (some (0, 0, ([] : List Int), 1))) = some (r1, r2, r3, r4) := H
   have A19 := Aside0.mk A190; clear A190
   by_cases c20 : t461 = true
   · subst c20
     have H1 : (some (x454000_1, x454001_1, x454002_1, 0)) = some (r1, r2, r3, r4) := by rw [if_pos rfl] at H; exact H
     clear H; have H := H1; clear H1; simp only [Option.some.injEq, Prod.mk.injEq] at H; obtain ⟨rfl, rfl, rfl, rfl⟩ := H; have hnb21 := NB453_452.out; have hnc21 := NB452_453.out
     have hcz22_0 : wr.cell? ⟨gb453, 0, none⟩ = some (.int .i64 x454000_1) := bc_ BK453.out 0
     have hcz22_1 : wr.cell? ⟨gb453, 1, none⟩ = some (.int .i64 x454001_1) := bc_ BK453.out 1
     have hcz22_2 : wr.cell? ⟨gb453, 2, none⟩ = some (u454002) := bc_ BK453.out 2
     have hfz22_0 := blk_frozen BK453.out 0; have hfz22_1 := blk_frozen BK453.out 1; have hfz22_2 := blk_frozen BK453.out 2
     obtain ⟨Ao23, co23, eo23⟩ := Kd.R_slice HO_454002.out
     subst eo23
     go_wp2_with (first | ((with_reducible refine gate_callee (f := 20) rfl ?_); refine goQ_ (some 43) Try.func20 #[.agg #[.int .i64 x454000_1, .int .i64 x454001_1, .slice Ao23 x454002_1.length co23]] ?_; (with_reducible refine (chequerref03_May.calls x454000_1 x454001_1 _ _ x454002_1 true _ ?side1 ?side2 A19.out).mono ?_); (case side1 => exact cp_ (Kd.R_reads' HO_454002.out).2.2); (case side2 => exact (Kd.R_reads' HO_454002.out).2.1); rintro e w24 ⟨rfl, hb⟩; refine ⟨_, rfl, ?_⟩; replace HO_454002 := rb_ HO_454002.out hb; replace BK452 := kb_ BK452.out hb; replace BK453 := kb_ BK453.out hb; replace HB := Aside0.mk (below_step bp_ hb); (try clear hb); (try clear hb2); (try clear hk); (try clear hi); have hcz25_0 : w24.cell? ⟨gb453, 0, none⟩ = some (.int .i64 x454000_1) := bc_ BK453.out 0; have hcz25_1 : w24.cell? ⟨gb453, 1, none⟩ = some (.int .i64 x454001_1) := bc_ BK453.out 1; have hcz25_2 : w24.cell? ⟨gb453, 2, none⟩ = some (.slice Ao23 x454002_1.length co23) := bc_ BK453.out 2; have hfz25_0 := blk_frozen BK453.out 0; have hfz25_1 := blk_frozen BK453.out 1; have hfz25_2 := blk_frozen BK453.out 2; have hcz26_0 : w24.cell? ⟨gb452, 0, none⟩ = some (.int .i64 x453000_1) := bc_ BK452.out 0; have hcz26_1 : w24.cell? ⟨gb452, 1, none⟩ = some (.int .i64 x453001_1) := bc_ BK452.out 1; have hcz26_2 : w24.cell? ⟨gb452, 2, none⟩ = some (.slice none 0 0) := bc_ BK452.out 2; have hfz26_0 := blk_frozen BK452.out 0; have hfz26_1 := blk_frozen BK452.out 1; have hfz26_2 := blk_frozen BK452.out 2))
     refine bodyPost_ret (results_ct rfl _ _ gb452 24 #[.int .i64 x454000_1, .int .i64 x454001_1, .slice Ao23 x454002_1.length co23] (0, 0) _ rfl (by (with_reducible repeat (first | refine blk_drewN ?_ _ | refine blk_drew ?_ | refine blk_alloc ?_ _)); refine blk_put (cs := #[.int .i64 x454000_1, .int .i64 x454001_1, .slice none 0 0]) ?_ 2 _ rfl; (with_reducible repeat (first | refine blk_drewN ?_ _ | refine blk_drew ?_ | refine blk_alloc ?_ _)); refine blk_put (cs := #[.int .i64 x454000_1, .int .i64 x453001_1, .slice none 0 0]) ?_ 1 _ rfl; (with_reducible repeat (first | refine blk_drewN ?_ _ | refine blk_drew ?_ | refine blk_alloc ?_ _)); refine blk_put (cs := #[.int .i64 x453000_1, .int .i64 x453001_1, .slice none 0 0]) ?_ 0 _ rfl; (with_reducible repeat (first | refine blk_drewN ?_ _ | refine blk_drew ?_ | refine blk_alloc ?_ _)); exact BK452.out) Try.underlying24 rfl (by kernel_rfl)) rfl ?_
     exact ⟨_, by first | rfl | (simp [errW_none, errW_some] <;> rfl) | (simp [*, errW_none, errW_some] <;> rfl), rf_ HO_454002.out BK452.out (by decide) (fun _ hk => trivial), bp_⟩
   replace c20 := Bool.eq_false_iff.mpr c20; subst c20
   have H1 : (some (0, 0, ([] : List Int), 1)) = some (r1, r2, r3, r4) := by rw [if_neg (show ¬ (false = true) by decide)] at H; exact H
   clear H; have H := H1; clear H1; simp only [Option.some.injEq, Prod.mk.injEq] at H; obtain ⟨rfl, rfl, rfl, rfl⟩ := H; have hnb27 := NB453_452.out; have hnc27 := NB452_453.out
   have hcz28_0 : wr.cell? ⟨gb453, 0, none⟩ = some (.int .i64 x454000_1) := bc_ BK453.out 0
   have hcz28_1 : wr.cell? ⟨gb453, 1, none⟩ = some (.int .i64 x454001_1) := bc_ BK453.out 1
   have hcz28_2 : wr.cell? ⟨gb453, 2, none⟩ = some (u454002) := bc_ BK453.out 2
   have hfz28_0 := blk_frozen BK453.out 0; have hfz28_1 := blk_frozen BK453.out 1; have hfz28_2 := blk_frozen BK453.out 2
   obtain ⟨Ao29, co29, eo29⟩ := Kd.R_slice HO_454002.out
   subst eo29
   go_wp2_with (first | ((with_reducible refine gate_callee (f := 20) rfl ?_); refine goQ_ (some 43) Try.func20 #[.agg #[.int .i64 x454000_1, .int .i64 x454001_1, .slice Ao29 x454002_1.length co29]] ?_; (with_reducible refine (chequerref03_May.calls x454000_1 x454001_1 _ _ x454002_1 false _ ?side1 ?side2 A19.out).mono ?_); (case side1 => exact cp_ (Kd.R_reads' HO_454002.out).2.2); (case side2 => exact (Kd.R_reads' HO_454002.out).2.1); rintro e w30 ⟨rfl, hb⟩; refine ⟨_, rfl, ?_⟩; replace HO_454002 := rb_ HO_454002.out hb; replace BK452 := kb_ BK452.out hb; replace HB := Aside0.mk (below_step bp_ hb); (try clear hb); (try clear hb2); (try clear hk); (try clear hi); have hcz31_0 : w30.cell? ⟨gb452, 0, none⟩ = some (.int .i64 x453000_1) := bc_ BK452.out 0; have hcz31_1 : w30.cell? ⟨gb452, 1, none⟩ = some (.int .i64 x453001_1) := bc_ BK452.out 1; have hcz31_2 : w30.cell? ⟨gb452, 2, none⟩ = some (.slice none 0 0) := bc_ BK452.out 2; have hfz31_0 := blk_frozen BK452.out 0; have hfz31_1 := blk_frozen BK452.out 1; have hfz31_2 := blk_frozen BK452.out 2))
   refine bodyPost_ret (results_ct rfl _ _ gb452 24 #[.int .i64 0, .int .i64 0, .slice none 0 0] (0, 0) _ rfl (by (with_reducible repeat (first | refine blk_drewN ?_ _ | refine blk_drew ?_ | refine blk_alloc ?_ _)); refine blk_put (cs := #[.int .i64 0, .int .i64 0, .slice none 0 0]) ?_ 2 _ rfl; (with_reducible repeat (first | refine blk_drewN ?_ _ | refine blk_drew ?_ | refine blk_alloc ?_ _)); refine blk_put (cs := #[.int .i64 0, .int .i64 x453001_1, .slice none 0 0]) ?_ 1 _ rfl; (with_reducible repeat (first | refine blk_drewN ?_ _ | refine blk_drew ?_ | refine blk_alloc ?_ _)); refine blk_put (cs := #[.int .i64 x453000_1, .int .i64 x453001_1, .slice none 0 0]) ?_ 0 _ rfl; (with_reducible repeat (first | refine blk_drewN ?_ _ | refine blk_drew ?_ | refine blk_alloc ?_ _)); exact BK452.out) Try.underlying24 rfl (by kernel_rfl)) rfl ?_
   exact ⟨_, by first | rfl | (simp [errW_none, errW_some] <;> rfl) | (simp [*, errW_none, errW_some] <;> rfl), by first | exact Kd.R_nil _ _ _ _ _ | exact Kd.N_nil _ _ _ _ _ | exact Kd.V_nil _ _ _ _ _ | exact Kd.Q_nil _ _ _ _ _ | exact Kd.S_nil _ _ _ _ _, bp_⟩


/-! ### chequerref03_Row: function 31 -/
def chequerref03_Row.l0 : Nat → Int → List Int → Int → Int → Int → List Int → Option (List Int)
 | 0, _, _, _, _, _, _ => none
 | k + 1, x1, x5, x6, x463000, x463001, x463002 => if x6 < x463000 then ((chequerref03_At.f x463000 x463001 x463002 x6 x1).bind fun bt463 => (if bt463.2 = true then (if x5.length < 17592186044416 then (chequerref03_Row.l0 k x1 (x5 ++ [bt463.1]) (wrap64 (x6 + 1)) x463000 x463001 x463002) else (none)) else (chequerref03_Row.l0 k x1 x5 (wrap64 (x6 + 1)) x463000 x463001 x463002))) else (some x5)
def chequerref03_Row.f (k : Nat) (a0_0 : Int) (a0_1 : Int) (l0_2 : List Int) (a1 : Int) : Option (List Int) := chequerref03_Row.l0 k a1 ([] : List Int) 0 a0_0 a0_1 l0_2
theorem chequerref03_Row.mono_l : ∀ k, (∀ y0 y1 y2 y3 y4 y5, LeO (chequerref03_Row.l0 k y0 y1 y2 y3 y4 y5) (chequerref03_Row.l0 (k + 1) y0 y1 y2 y3 y4 y5))
 | 0 => fun _ _ _ _ _ _ r h => by simp [chequerref03_Row.l0] at h
 | k + 1 => by
  have ih0 := chequerref03_Row.mono_l k
  · intro y0 y1 y2 y3 y4 y5
    unfold chequerref03_Row.l0
    repeat' first
    | (with_reducible exact ih0 _ _ _ _ _ _)
    | (with_reducible exact LeO.refl _)
    | (with_reducible exact LeO.none _)
    | (with_reducible refine LeO.ite ?_ ?_)
    | (with_reducible refine LeO.bind ?_ (fun _ => ?_))
    | exact ih0 _ _ _ _ _ _
    | exact LeO.none _
    | refine LeO.ite ?_ ?_
    | refine LeO.bind ?_ (fun _ => ?_)
theorem chequerref03_Row.mono : ∀ a0 a1 a2 a3 k, LeO (chequerref03_Row.f k a0 a1 a2 a3) (chequerref03_Row.f (k + 1) a0 a1 a2 a3) := by
 intro a0 a1 a2 a3 k
 have ih0 := chequerref03_Row.mono_l k
 unfold chequerref03_Row.f
 repeat' first
  | (with_reducible exact ih0 _ _ _ _ _ _)
  | (with_reducible exact LeO.refl _)
  | (with_reducible exact LeO.none _)
  | (with_reducible refine LeO.ite ?_ ?_)
  | (with_reducible refine LeO.bind ?_ (fun _ => ?_))
  | exact ih0 _ _ _ _ _ _
  | exact LeO.none _
  | refine LeO.ite ?_ ?_
  | refine LeO.bind ?_ (fun _ => ?_)
set_option maxHeartbeats 8000000 in
set_option maxRecDepth 100000 in
theorem chequerref03_Row.calls (k : Nat) (a0_0 : Int) (a0_1 : Int) (A0_2 : Option Addr) (c0_2 : Nat) (l0_2 : List Int) (a1 : Int) (r : List Int) (w : World) (hr0_2 : Kd.C (Kd.int .u64) w A0_2 l0_2.length l0_2) (hc0_2 : l0_2.length ≤ c0_2) (h : chequerref03_Row.f k a0_0 a0_1 l0_2 a1 = some r) :
 Calls Try.prog 31 #[.agg #[.int .i64 a0_0, .int .i64 a0_1, .slice A0_2 l0_2.length c0_2], .int .i64 a1] w fun e w' => ∃ v0_ : Value, e = .returned (v0_) ∧ Kd.R (Kd.int .u64) 46 w' w.heap.size (fun _ => True) v0_ r ∧ Below w.heap.size w w' := by
 have hu24 := Try.underlying24
 have HR0_2 := Aside0.mk hr0_2
 have HC0_2 := Aside0.mk hc0_2
 clear hr0_2 hc0_2
 have HB := Aside0.mk (Below.refl w.heap.size w)
 have H : (chequerref03_Row.l0 k a1 ([] : List Int) 0 a0_0 a0_1 l0_2) = some r := h
 clear h
 have H' := Aside0.mk H
 clear H
 go_enter Try.func31, Try.ntmps31
 go_wp2_with (first | ((with_reducible refine gate_dst (N := 2) rfl ?_); refine box_event ?hg (N := 2) ?hd (cs := #[.int .i64 a0_0, .int .i64 a0_1, .slice A0_2 l0_2.length c0_2]) (t := 24) ?hr ?_; (case hd => rfl); (case hg => rfl); (case hr => first | (go_simp; done) | (go_simp; rfl)); intro gb462 hg w3 hbox hb; have BK462 := Aside0.mk (hbox); have GW462 := Aside0.mk ((by rw [hg]; exact (below_size bp_) : w.heap.size ≤ gb462)); have GE462 := Aside0.mk ((by rw [hg]; exact (below_size bp_) : w.heap.size ≤ gb462)); replace HB := Aside0.mk (below_step bp_ hb); clear hb hbox hg))
 go_loopg [5, 6] k (fun kq v5 v6 w' => ∃ (x5_1 : List Int) (x6_1 : Int), v6 = .int .i64 x6_1 ∧ Aside0 (chequerref03_Row.l0 kq a1 x5_1 x6_1 a0_0 a0_1 l0_2 = some r) ∧ Aside0 (kq ≤ k) ∧ Aside0 (Kd.R (Kd.int .u64) 46 w' w.heap.size (fun _ => True) v5 x5_1) ∧ Aside0 (w'.heap[gb462]? = some (.cells #[.int .i64 a0_0, .int .i64 a0_1, (.slice A0_2 l0_2.length c0_2)] 24 (0, 0))) ∧ Aside0 (Below w.heap.size w w'))
 case atStart => exact ⟨(([] : List Int)), (0), (by first | rfl | (simp; done) | (simp [*]; done)), H', ⟨Nat.le_refl _⟩, ⟨by first | exact Kd.R_nil _ _ _ _ _ | exact Kd.N_nil _ _ _ _ _ | exact Kd.V_nil _ _ _ _ _ | exact Kd.Q_nil _ _ _ _ _ | exact Kd.S_nil _ _ _ _ _⟩, ⟨hp_ BK462.out⟩, ⟨bp_⟩⟩
 case round =>
  clear H'
  try clear p2
  try clear c3
  obtain ⟨x5_1, x6_1, rfl, HA, HK1, HO_5, BK462, HB⟩ := hrel
  cases gk with
  | zero => exact absurd HA.out (by simp [chequerref03_Row.l0])
  | succ k1 =>
   have H := HA.out; clear HA; simp only [chequerref03_Row.l0] at H
   by_cases c4 : x6_1 < a0_0
   · rw [if_pos c4] at H
     have c4b0 : decide (x6_1 < a0_0) = true := decide_eq_true c4
     clear c4; replace H := Option.bind_eq_some_iff.mp H; obtain ⟨⟨t463, t464⟩, A50, H⟩ := H
     replace H : (if t464 = true then (if x5_1.length < 17592186044416 then (chequerref03_Row.l0 k1 a1 (x5_1 ++ [t463]) (wrap64 (x6_1 + 1)) a0_0 a0_1 l0_2) else (none)) else (chequerref03_Row.l0 k1 a1 x5_1 (wrap64 (x6_1 + 1)) a0_0 a0_1 l0_2)) = some r := H
     have A5 := Aside0.mk A50; clear A50
     by_cases c6 : t464 = true
     · subst c6
       have H1 : (if x5_1.length < 17592186044416 then (chequerref03_Row.l0 k1 a1 (x5_1 ++ [t463]) (wrap64 (x6_1 + 1)) a0_0 a0_1 l0_2) else (none)) = some r := by rw [if_pos rfl] at H; exact H
       clear H; have H := H1; clear H1
       by_cases c7 : x5_1.length < 17592186044416
       · rw [if_pos c7] at H; have LMc7 := Aside0.mk c7; clear c7
         obtain ⟨y465, hy465⟩ : ∃ y_ : List Int, y_ = (x5_1 ++ [t463]) := ⟨_, rfl⟩
         replace H : (chequerref03_Row.l0 k1 a1 y465 (wrap64 (x6_1 + 1)) a0_0 a0_1 l0_2) = some r := by first | (rw [hy465]; with_reducible exact H) | (have H2_ := (Option.bind_some _ _).symm.trans H; rw [hy465]; with_reducible exact H2_) | (have H2_ := (Option.bind_some _ _).symm.trans H; with_reducible exact H2_) | with_reducible exact H | (rw [hy465]; exact H) | exact H
         have Ny465 := Aside0.mk hy465; clear hy465
         have H' := Aside0.mk H
         clear H
         have hcz8_0 : wr.cell? ⟨gb462, 0, none⟩ = some (.int .i64 a0_0) := bc_ BK462.out 0
         have hcz8_1 : wr.cell? ⟨gb462, 1, none⟩ = some (.int .i64 a0_1) := bc_ BK462.out 1
         have hcz8_2 : wr.cell? ⟨gb462, 2, none⟩ = some (.slice A0_2 l0_2.length c0_2) := bc_ BK462.out 2
         have hfz8_0 := blk_frozen BK462.out 0; have hfz8_1 := blk_frozen BK462.out 1; have hfz8_2 := blk_frozen BK462.out 2
         go_wp2_with (first | ((with_reducible refine gate_callee (f := 25) rfl ?_); refine goQ_ (some 19) Try.func25 #[.agg #[.int .i64 a0_0, .int .i64 a0_1, .slice A0_2 l0_2.length c0_2], .int .i64 x6_1, .int .i64 a1] ?_; (with_reducible refine (chequerref03_At.calls a0_0 a0_1 _ _ l0_2 x6_1 a1 t463 true _ ?side1 ?side2 A5.out).mono ?_); (case side1 => repeat (first | exact (Kd.C_below HR0_2.out HB.out) | (with_reducible refine Kd.C_alloc ?_ _) | (with_reducible refine Kd.C_drewN ?_ _) | (with_reducible refine Kd.C_drew ?_))); (case side2 => exact HC0_2.out); rintro e w9 ⟨rfl, hb⟩; refine ⟨_, rfl, ?_⟩; replace HO_5 := rb_ HO_5.out hb; replace BK462 := kb_ BK462.out hb; replace HB := Aside0.mk (below_step bp_ hb); (try clear hb); (try clear hb2); (try clear hk); (try clear hi)) | ((with_reducible refine gate_builtin (b := .append) (xs := #[.tmp 23, .tmp 25]) rfl ?_); at_builtin; refine Kd.R_append (Kd.int .u64) (w0 := w) w.heap.size rfl (.tmp 23) (.tmp 25) 22 46 (.int .u64 0) 8 rfl Try.underlying22 info46 rfl (by decide) (by omega) u5 x5_1 t463 [.int .u64 t463] (fun _ => True) (fun _ => False) rfl rfl ?aP (fun _ hk => hk.elim) ?aF ?aO ?aB ?aS ?aL ?_; (case aP => exact rfl); (case aB => exact bp_); (case aF => exact (fun _ _ => trivial)); (case aO => exact (rp_ HO_5.out)); (case aS => exact (below_size bp_)); (case aL => have := LMc7.out; omega); intro v466 w10 ho hb hg hat; rw [← Ny465.out] at ho; replace BK462 := Aside0.mk (blk_grown (g := gb462) (o := .cells #[.int .i64 a0_0, .int .i64 a0_1, .slice A0_2 l0_2.length c0_2] 24 (0, 0)) (hp_ BK462.out) hg (Kd.R_ne HO_5.out BK462.out (by decide))); replace HB := Aside0.mk (hb); have HO467 := Aside0.mk (ho); clear HO_5; clear ho hb hg hat))
         go_roundg k1
         case measure => have := HK1.out; omega
         case rel => exact ⟨(y465), (wrap64 (x6_1 + 1)), (by first | rfl | (simp; done) | (simp [*]; done)), H', ⟨by have := HK1.out; omega⟩, ⟨rp_ HO467.out⟩, ⟨hp_ BK462.out⟩, ⟨bp_⟩⟩
       rw [if_neg c7] at H
       exact absurd H (by simp)
     replace c6 := Bool.eq_false_iff.mpr c6; subst c6
     have H1 : (chequerref03_Row.l0 k1 a1 x5_1 (wrap64 (x6_1 + 1)) a0_0 a0_1 l0_2) = some r := by rw [if_neg (show ¬ (false = true) by decide)] at H; exact H
     clear H; have H := H1; clear H1
     have H' := Aside0.mk H
     clear H
     have hcz11_0 : wr.cell? ⟨gb462, 0, none⟩ = some (.int .i64 a0_0) := bc_ BK462.out 0
     have hcz11_1 : wr.cell? ⟨gb462, 1, none⟩ = some (.int .i64 a0_1) := bc_ BK462.out 1
     have hcz11_2 : wr.cell? ⟨gb462, 2, none⟩ = some (.slice A0_2 l0_2.length c0_2) := bc_ BK462.out 2
     have hfz11_0 := blk_frozen BK462.out 0; have hfz11_1 := blk_frozen BK462.out 1; have hfz11_2 := blk_frozen BK462.out 2
     go_wp2_with (first | ((with_reducible refine gate_callee (f := 25) rfl ?_); refine goQ_ (some 19) Try.func25 #[.agg #[.int .i64 a0_0, .int .i64 a0_1, .slice A0_2 l0_2.length c0_2], .int .i64 x6_1, .int .i64 a1] ?_; (with_reducible refine (chequerref03_At.calls a0_0 a0_1 _ _ l0_2 x6_1 a1 t463 false _ ?side1 ?side2 A5.out).mono ?_); (case side1 => repeat (first | exact (Kd.C_below HR0_2.out HB.out) | (with_reducible refine Kd.C_alloc ?_ _) | (with_reducible refine Kd.C_drewN ?_ _) | (with_reducible refine Kd.C_drew ?_))); (case side2 => exact HC0_2.out); rintro e w12 ⟨rfl, hb⟩; refine ⟨_, rfl, ?_⟩; replace HO_5 := rb_ HO_5.out hb; replace BK462 := kb_ BK462.out hb; replace HB := Aside0.mk (below_step bp_ hb); (try clear hb); (try clear hb2); (try clear hk); (try clear hi)))
     go_roundg k1
     case measure => have := HK1.out; omega
     case rel => exact ⟨(x5_1), (wrap64 (x6_1 + 1)), (by first | rfl | (simp; done) | (simp [*]; done)), H', ⟨by have := HK1.out; omega⟩, ⟨rp_ HO_5.out⟩, ⟨hp_ BK462.out⟩, ⟨bp_⟩⟩
   rw [if_neg c4] at H
   have c4b0 : decide (x6_1 < a0_0) = false := decide_eq_false c4
   clear c4
   obtain rfl := Option.some.inj H
   have hcz13_0 : wr.cell? ⟨gb462, 0, none⟩ = some (.int .i64 a0_0) := bc_ BK462.out 0
   have hcz13_1 : wr.cell? ⟨gb462, 1, none⟩ = some (.int .i64 a0_1) := bc_ BK462.out 1
   have hcz13_2 : wr.cell? ⟨gb462, 2, none⟩ = some (.slice A0_2 l0_2.length c0_2) := bc_ BK462.out 2
   have hfz13_0 := blk_frozen BK462.out 0; have hfz13_1 := blk_frozen BK462.out 1; have hfz13_2 := blk_frozen BK462.out 2
   go_wp2
   go_ret
   exact ⟨_, by first | rfl | (simp [errW_none, errW_some] <;> rfl) | (simp [*, errW_none, errW_some] <;> rfl), by (with_reducible repeat (first | apply Kd.R_alloc | apply Kd.R_drewN | apply Kd.R_drew)); exact HO_5.out, bp_⟩

end Go.Proofs.Ytidpaaemfiopkaa.Q
