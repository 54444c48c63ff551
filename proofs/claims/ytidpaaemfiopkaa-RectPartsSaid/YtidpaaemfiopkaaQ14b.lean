-- written by our own program (wip/tools/myprint.py) out of the translation, by the kit's print; Lean checks it
import Derived.Test.YtidpaaemfiopkaaQ0
import Derived.Test.YtidpaaemfiopkaaQ2
import Derived.Test.YtidpaaemfiopkaaQ3
import Derived.Test.YtidpaaemfiopkaaQ5
import Derived.Test.YtidpaaemfiopkaaQ6
import Derived.Test.YtidpaaemfiopkaaQ7
import Derived.Test.YtidpaaemfiopkaaQ11
import Derived.Test.YtidpaaemfiopkaaQ13
import Derived.Test.YtidpaaemfiopkaaQ14a
namespace Go.Proofs.Ytidpaaemfiopkaa.Q
open Go.RowKit Go.Proofs.YtidpaaemfiopkaaW.PrintWords Go.Proofs.YtidpaaemfiopkaaW.PrintLast Go.Proofs.YtidpaaemfiopkaaW.PrintMore
attribute [local go_sem] max2_int min2_int max_two min_two max_three min_three max_four min_four   -- for this text's walks alone
set_option linter.unusedVariables false
set_option linter.unusedSimpArgs false

set_option maxHeartbeats 16000000 in
set_option maxRecDepth 100000 in
theorem chequerlaw03_RectParts.rest1 : chequerlaw03_RectParts.part1.1 := by
 intro k a0_0 a0_1 A0_2 c0_2 l0_2 a1_0 a1_1 A1_2 c1_2 l1_2 a2_0 a2_1 a2_2 a2_3 r w hu24 hu25 hu32 HR0_2 HC0_2 HR1_2 HC1_2 t372 t373 t374 A4 t378 t379 t380 A5 t384 A6 t385 A7 t386 A8 t387 A9 y389 Ny389 hid1_ gb369 w10 GW369 GE369 gb370 w11 GW370 GE370 NB369_370 NB370_369 gb371 w12 GW371 GE371 NB369_371 NB371_369 BK369 NB370_371 NB371_370 hnb13 hnc13 hnb14 hnc14 hcz15_0 hcz15_1 hcz15_2 hfz15_0 hfz15_1 hfz15_2 w16 gb377 w17 GW377 GE377 NB370_377 NB377_370 NB371_377 NB377_371 hnb18 hnc18 hnb19 hnc19 hcz20_0 hcz20_1 hcz20_2 hfz20_0 hfz20_1 hfz20_2 Ao21 co21 hnb22 hnc22 hcz23_0 hcz23_1 hcz23_2 hfz23_0 hfz23_1 hfz23_2 w24 BK370 gb383 w25 GW383 GE383 NB371_383 NB383_371 NB377_383 NB383_377 hnb26 hnc26 hnb27 hnc27 hcz28_0 hcz28_1 hcz28_2 hfz28_0 hfz28_1 hfz28_2 Ao29 co29 w30 hid2_ hid3_ w31 hid4_ gb388 w33 hid5_ GW388 GE388 NB371_388 NB388_371 NB377_388 NB388_377 NB383_388 NB388_383 hid6_ hs34 hfs34 hns34_0 hns34_1 hns34_2 hms34_0 hms34_1 hms34_2 hs35 hfs35 hns35_0 hns35_1 hns35_2 hms35_0 hms35_1 hms35_2 hs36 hfs36 hns36_0 hns36_1 hns36_2 hms36_0 hms36_1 hms36_2 hs37 hfs37 hns37_0 hns37_1 hns37_2 hms37_0 hms37_1 hms37_2 hid7_ hnb38 hnc38 hnb40 hnc40 hnb41 hnc41 w43 hid8_ hid9_ hid10_ hid11_ hid12_ hid13_ hid14_ wr u6 u12 u13 u14 u15 u16 u17 u18 u19 u20 u45 u46 u47 u48 u49 u50 u51 u52 u53 u54 u55 u56 u57 u58 u59 u60 u61 u62 u63 u64 u65 u66 u67 u68 u69 u70 u71 u72 u73 u74 u75 u76 u77 u78 u79 u80 u81 u82 u83 u84 u85 u86 u87 u88 u89 u90 u91 u92 u93 u94 u95 u96 u97 u98 u99 u100 u101 u102 u103 u104 u105 u106 u107 u108 u109 u110 u111 u112 u113 u114 u115 u116 u117 u118 u119 u120 u121 u122 u123 u124 u125 u126 u127 u128 u129 u130 u131 u132 u133 u134 u135 u136 u137 u138 u139 u140 u141 u142 u143 u144 u145 u146 u147 u148 u149 u150 hid15_ hid16_ x11_1 k1 hid17_ HK1 c45b0 c46b0 c47b0 t395 t396 t397 A48 t400 t401 A49 t402 t403 A50 t404 t405 t406 A51 t409 t410 t411 t414 A52 t416 t417 t418 t421 A53 HC54 co55 ad393 hx393_0 hx393_1 hx393_2 hx393_3 HO376 HO382 HO391 hid18_ p393 q393 hid19_ hid20_ gb394 w56 GW394 GE394 NB371_394 NB394_371 NB377_394 NB394_377 NB383_394 NB394_383 NB388_394 NB394_388 hnb57 hnc57 hnb58 hnc58 hnb59 hnc59 hnb60 hnc60 hcz61_0 hcz61_1 hcz61_2 hcz61_3 hfz61_0 hfz61_1 hfz61_2 hfz61_3 w62 hid21_ hid22_ w63 hid23_ w64 Ao65 co65 hid24_ w66 hid25_ hnb67 hnc67 hnb68 hnc68 hnb69 hnc69 hcz70_0 hcz70_1 hcz70_2 hfz70_0 hfz70_1 hfz70_2 hcz71_0 hcz71_1 hcz71_2 hcz71_3 hfz71_0 hfz71_1 hfz71_2 hfz71_3 w72 hid26_ hid27_ HT_ HW_ w73 hid28_ v407 gb415 w78 hS_ HO_10 BK371 BK377 BK383 BK388 BK394 BK415 GW415 GE415 NB371_415 NB415_371 NB377_415 NB415_377 NB383_415 NB415_383 NB388_415 NB415_388 NB394_415 NB415_394 HB hid29_ Ao81 co81 HO399 HO408 HO413 HO_378002 HO_384002 hs79 hfs79 hns79_0 hns79_1 hns79_2 hns79_3 hns79_4 hms79_0 hms79_1 hms79_2 hms79_3 hms79_4 hs80 hfs80 hns80_0 hns80_1 hns80_2 hns80_3 hns80_4 hms80_0 hms80_1 hms80_2 hms80_3 hms80_4 hs82 hfs82 hns82_0 hns82_1 hns82_2 hns82_3 hns82_4 hms82_0 hms82_1 hms82_2 hms82_3 hms82_4 hHeld hnb83 hnc83 hcz84_0 hcz84_1 hcz84_2 hfz84_0 hfz84_1 hfz84_2 hnb85 hnc85 hcz86_0 hcz86_1 hcz86_2 hcz86_3 hfz86_0 hfz86_1 hfz86_2 hfz86_3
 go_upto_region 13 with (first | ((with_reducible refine gate_callee (f := 12) rfl ?_); refine goQ_ (some 96) Try.func12 #[.agg #[.int .i64 t372, .int .i64 t373, .slice Ao21 t374.length co21], .int .i64 ((rd_T25 y389 x11_1).f0), .int .i64 ((rd_T25 y389 x11_1).f1), .int .i64 ((rd_T25 y389 x11_1).f2), .int .i64 ((rd_T25 y389 x11_1).f3)] ?_; (with_reducible refine (chequerref03_Sub.calls k1 t372 t373 _ _ t374 ((rd_T25 y389 x11_1).f0) ((rd_T25 y389 x11_1).f1) ((rd_T25 y389 x11_1).f2) ((rd_T25 y389 x11_1).f3) t416 t417 t418 t421 _ ?side1 ?side2 A53.out).mono ?_); (case side1 => refine (Kd.V_reads' (e := 46) (base := w.heap.size) (ok := fun k_ => (some k_ ≠ (.slice Ao81 t411.length co81 : Value).ownBlock ∧ (some k_ ≠ (.slice (some ad393) y389.length co55 : Value).ownBlock ∧ (k_ ≠ gb371 ∧ (k_ ≠ gb377 ∧ (k_ ≠ gb383 ∧ (k_ ≠ gb388 ∧ (k_ ≠ gb394 ∧ k_ ≠ gb415)))))))) (n := t374.length) (c := co21) ?_).2.2; exact (by (with_reducible repeat (first | apply Kd.V_alloc | apply Kd.V_drewN | apply Kd.V_drew)); exact (Kd.V_mono (Kd.V_far (p := ⟨gb415, 2, none⟩) (Kd.V_far (p := ⟨gb415, 1, none⟩) (Kd.V_far (p := ⟨gb415, 0, none⟩) (Kd.V_mono HO_378002.out (fun k_ hk => (⟨hk, hk.2.2.2.2.2.2.2⟩ : _ ∧ k_ ≠ gb415))) (fun _ hk => hk.2) (.int .i64 t409)) (fun _ hk => hk.2) (.int .i64 t410)) (fun _ hk => hk.2) (.slice Ao81 t411.length co81)) (fun _ h_ => h_.1)))); (case side2 => exact (Kd.V_reads' HO_378002.out).2.1); rintro e w87 ⟨v419, rfl, ho0, hb⟩; refine ⟨_, rfl, ?_⟩; replace HO_10 := Aside0.mk (Kd.R_below (by (with_reducible repeat (first | apply Kd.R_alloc | apply Kd.R_drewN | apply Kd.R_drew)); exact (Kd.R_mono (Kd.R_far (p := ⟨gb415, 2, none⟩) (Kd.R_far (p := ⟨gb415, 1, none⟩) (Kd.R_far (p := ⟨gb415, 0, none⟩) (Kd.R_types HO_10.out BK415.out (by decide)) (fun _ hk => hk.2) (.int .i64 t409)) (fun _ hk => hk.2) (.int .i64 t410)) (fun _ hk => hk.2) (.slice Ao81 t411.length co81)) (fun _ h_ => h_.1))) hb); replace HO_378002 := Aside0.mk (Kd.V_elder' (by (with_reducible repeat (first | apply Kd.V_alloc | apply Kd.V_drewN | apply Kd.V_drew)); exact (Kd.V_mono (Kd.V_far (p := ⟨gb415, 2, none⟩) (Kd.V_far (p := ⟨gb415, 1, none⟩) (Kd.V_far (p := ⟨gb415, 0, none⟩) (Kd.V_mono HO_378002.out (fun k_ hk => (⟨hk, hk.2.2.2.2.2.2.2⟩ : _ ∧ k_ ≠ gb415))) (fun _ hk => hk.2) (.int .i64 t409)) (fun _ hk => hk.2) (.int .i64 t410)) (fun _ hk => hk.2) (.slice Ao81 t411.length co81)) (fun _ h_ => h_.1))) (Kd.R_base ho0) hb); replace HO_384002 := Aside0.mk (Kd.V_elder' (by (with_reducible repeat (first | apply Kd.V_alloc | apply Kd.V_drewN | apply Kd.V_drew)); exact (Kd.V_mono (Kd.V_far (p := ⟨gb415, 2, none⟩) (Kd.V_far (p := ⟨gb415, 1, none⟩) (Kd.V_far (p := ⟨gb415, 0, none⟩) (Kd.V_mono HO_384002.out (fun k_ hk => (⟨hk, hk.2.2.2.2.2.2.2⟩ : _ ∧ k_ ≠ gb415))) (fun _ hk => hk.2) (.int .i64 t409)) (fun _ hk => hk.2) (.int .i64 t410)) (fun _ hk => hk.2) (.slice Ao81 t411.length co81)) (fun _ h_ => h_.1))) (Kd.R_base ho0) hb); replace HO399 := Aside0.mk (Kd.V_elder' (by (with_reducible repeat (first | apply Kd.V_alloc | apply Kd.V_drewN | apply Kd.V_drew)); exact (Kd.V_mono (Kd.V_far (p := ⟨gb415, 2, none⟩) (Kd.V_far (p := ⟨gb415, 1, none⟩) (Kd.V_far (p := ⟨gb415, 0, none⟩) (Kd.V_mono HO399.out (fun k_ hk => (⟨hk, hk.2.2.2.2.2.2.2⟩ : _ ∧ k_ ≠ gb415))) (fun _ hk => hk.2) (.int .i64 t409)) (fun _ hk => hk.2) (.int .i64 t410)) (fun _ hk => hk.2) (.slice Ao81 t411.length co81)) (fun _ h_ => h_.1))) (Kd.R_base ho0) hb); replace HO408 := Aside0.mk (Kd.V_elder' (by (with_reducible repeat (first | apply Kd.V_alloc | apply Kd.V_drewN | apply Kd.V_drew)); exact (Kd.V_mono (Kd.V_far (p := ⟨gb415, 2, none⟩) (Kd.V_far (p := ⟨gb415, 1, none⟩) (Kd.V_far (p := ⟨gb415, 0, none⟩) (Kd.V_mono HO408.out (fun k_ hk => (⟨hk, hk.2.2.2.2.2.2.2⟩ : _ ∧ k_ ≠ gb415))) (fun _ hk => hk.2) (.int .i64 t409)) (fun _ hk => hk.2) (.int .i64 t410)) (fun _ hk => hk.2) (.slice Ao81 t411.length co81)) (fun _ h_ => h_.1))) (Kd.R_base ho0) hb); have HO420 := Aside0.mk (Kd.R_lower (Kd.R_new' ho0 (Kd.R_lt (by (with_reducible repeat (first | apply Kd.R_alloc | apply Kd.R_drewN | apply Kd.R_drew)); exact (Kd.R_mono (Kd.R_far (p := ⟨gb415, 2, none⟩) (Kd.R_far (p := ⟨gb415, 1, none⟩) (Kd.R_far (p := ⟨gb415, 0, none⟩) (Kd.R_types HO413.out BK415.out (by decide)) (fun _ hk => hk.2) (.int .i64 t409)) (fun _ hk => hk.2) (.int .i64 t410)) (fun _ hk => hk.2) (.slice Ao81 t411.length co81)) (fun _ h_ => h_.1))))) (below_size bp_)); replace HO413 := Aside0.mk (Kd.R_elder' (by (with_reducible repeat (first | apply Kd.R_alloc | apply Kd.R_drewN | apply Kd.R_drew)); exact (Kd.R_mono (Kd.R_far (p := ⟨gb415, 2, none⟩) (Kd.R_far (p := ⟨gb415, 1, none⟩) (Kd.R_far (p := ⟨gb415, 0, none⟩) (Kd.R_types HO413.out BK415.out (by decide)) (fun _ hk => hk.2) (.int .i64 t409)) (fun _ hk => hk.2) (.int .i64 t410)) (fun _ hk => hk.2) (.slice Ao81 t411.length co81)) (fun _ h_ => h_.1))) (Kd.R_base ho0) hb); replace BK371 := Aside0.mk (blk_below (hf_ BK371.out NB371_415.out) hb); replace BK377 := Aside0.mk (blk_below (hf_ BK377.out NB377_415.out) hb); replace BK383 := Aside0.mk (blk_below (hf_ BK383.out NB383_415.out) hb); replace BK388 := Aside0.mk (blk_below (hf_ BK388.out NB388_415.out) hb); replace BK394 := Aside0.mk (blk_below (hf_ BK394.out NB394_415.out) hb); replace BK415 := Aside0.mk (blk_below (g := gb415) (o := .cells #[.int .i64 t409, .int .i64 t410, .slice Ao81 t411.length co81] 32 (0, 0)) (by (with_reducible repeat (first | refine blk_drewN ?_ _ | refine blk_drew ?_ | refine blk_alloc ?_ _)); refine blk_put (cs := #[.int .i64 t409, .int .i64 t410, .slice none 0 0]) ?_ 2 _ rfl; (with_reducible repeat (first | refine blk_drewN ?_ _ | refine blk_drew ?_ | refine blk_alloc ?_ _)); refine blk_put (cs := #[.int .i64 t409, .int .i64 0, .slice none 0 0]) ?_ 1 _ rfl; (with_reducible repeat (first | refine blk_drewN ?_ _ | refine blk_drew ?_ | refine blk_alloc ?_ _)); refine blk_put (cs := #[.int .i64 0, .int .i64 0, .slice none 0 0]) ?_ 0 _ rfl; (with_reducible repeat (first | refine blk_drewN ?_ _ | refine blk_drew ?_ | refine blk_alloc ?_ _)); exact BK415.out) hb); replace HB := Aside0.mk (below_step bp_ hb); (try clear hb); (try clear hb2); (try clear hk); (try clear hi); (try clear ho0)) | ((with_reducible refine gate_dst (N := 19) rfl ?_); refine box_event ?hg (N := 19) ?hd (cs := #[.int .i64 0, .int .i64 0, .slice none 0 0]) (t := 24) ?hr ?_; (case hd => rfl); (case hg => rfl); (case hr => first | (go_simp; done) | (go_simp; rfl)); intro gb422 hg w88 hbox hb; replace HO_10 := Aside0.mk (Kd.R_below (rp_ HO_10.out) hb); replace HO_378002 := Aside0.mk (Kd.V_below (Kd.V_elderB (vp_ HO_378002.out) gb422 (Nat.le_of_eq hg.symm)) hb); replace HO_384002 := Aside0.mk (Kd.V_below (Kd.V_elderB (vp_ HO_384002.out) gb422 (Nat.le_of_eq hg.symm)) hb); replace HO399 := Aside0.mk (Kd.V_below (Kd.V_elderB (vp_ HO399.out) gb422 (Nat.le_of_eq hg.symm)) hb); replace HO408 := Aside0.mk (Kd.V_below (Kd.V_elderB (vp_ HO408.out) gb422 (Nat.le_of_eq hg.symm)) hb); replace HO413 := Aside0.mk (Kd.R_below (rp_ HO413.out) hb); replace HO420 := Aside0.mk (Kd.R_below (rp_ HO420.out) hb); have BK422 := Aside0.mk (hbox); have GW422 := Aside0.mk ((by rw [hg]; exact (below_size bp_) : w.heap.size ≤ gb422)); have GE422 := Aside0.mk ((by rw [hg]; exact (below_size bp_) : w.heap.size ≤ gb422)); replace HB := Aside0.mk (below_step bp_ hb); have NB371_422 := Aside0.mk ((nlt_ hg (hp_ BK371.out))); have NB422_371 := Aside0.mk ((ngt_ hg (hp_ BK371.out))); replace BK371 := Aside0.mk (blk_below (hp_ BK371.out) hb); have NB377_422 := Aside0.mk ((nlt_ hg (hp_ BK377.out))); have NB422_377 := Aside0.mk ((ngt_ hg (hp_ BK377.out))); replace BK377 := Aside0.mk (blk_below (hp_ BK377.out) hb); have NB383_422 := Aside0.mk ((nlt_ hg (hp_ BK383.out))); have NB422_383 := Aside0.mk ((ngt_ hg (hp_ BK383.out))); replace BK383 := Aside0.mk (blk_below (hp_ BK383.out) hb); have NB388_422 := Aside0.mk ((nlt_ hg (hp_ BK388.out))); have NB422_388 := Aside0.mk ((ngt_ hg (hp_ BK388.out))); replace BK388 := Aside0.mk (blk_below (hp_ BK388.out) hb); have NB394_422 := Aside0.mk ((nlt_ hg (hp_ BK394.out))); have NB422_394 := Aside0.mk ((ngt_ hg (hp_ BK394.out))); replace BK394 := Aside0.mk (blk_below (hp_ BK394.out) hb); have NB415_422 := Aside0.mk ((nlt_ hg (hp_ BK415.out))); have NB422_415 := Aside0.mk ((ngt_ hg (hp_ BK415.out))); replace BK415 := Aside0.mk (blk_below (hp_ BK415.out) hb); clear hb hbox hg; have hnb89 := NB422_371.out; have hnc89 := NB371_422.out; have hnb90 := NB422_377.out; have hnc90 := NB377_422.out; have hnb91 := NB422_383.out; have hnc91 := NB383_422.out; have hnb92 := NB422_388.out; have hnc92 := NB388_422.out; have hnb93 := NB422_394.out; have hnc93 := NB394_422.out; have hnb94 := NB422_415.out; have hnc94 := NB415_422.out; have hcz95_0 : w88.cell? ⟨gb422, 0, none⟩ = some (.int .i64 0) := (blk_cell BK422.out 0).trans rfl; have hcz95_1 : w88.cell? ⟨gb422, 1, none⟩ = some (.int .i64 0) := (blk_cell BK422.out 1).trans rfl; have hcz95_2 : w88.cell? ⟨gb422, 2, none⟩ = some (.slice none 0 0) := (blk_cell BK422.out 2).trans rfl; have hfz95_0 := blk_frozen BK422.out 0; have hfz95_1 := blk_frozen BK422.out 1; have hfz95_2 := blk_frozen BK422.out 2; obtain ⟨Ao96, co96, eo96⟩ := Kd.R_slice HO420.out; subst eo96))
 (try simp only [Act.put, List.setIfInBounds_toArray, List.set_cons_zero, List.set_cons_succ])
 go_cut [137] (fun v137 wc => ∃ (kq : Nat) (x137_53 : Bool), v137 = .bool x137_53 ∧ Aside0 (chequerlaw03_RectParts.j1 kq y389 x11_1 t421 x137_53 t372 t373 t374 t378 t379 t380 ((rd_T25 y389 x11_1).f0) ((rd_T25 y389 x11_1).f1) ((rd_T25 y389 x11_1).f2) ((rd_T25 y389 x11_1).f3) t416 t417 t418 = some r) ∧ Aside0 (kq ≤ k1) ∧ Aside0 (Kd.R k25 25 wc w.heap.size (fun k_ => k_ ≠ gb371 ∧ k_ ≠ gb388 ∧ k_ ≠ gb394) (.slice (some ad393) y389.length co55) y389) ∧ Aside0 (Kd.V (Kd.int .u64) 46 wc w.heap.size (fun k_ => some k_ ≠ ((.slice (some ad393) y389.length co55) : Value).ownBlock ∧ some k_ ≠ ((.slice Ao81 t411.length co81) : Value).ownBlock ∧ some k_ ≠ ((.slice Ao96 t418.length co96) : Value).ownBlock ∧ k_ ≠ gb371 ∧ k_ ≠ gb377 ∧ k_ ≠ gb383 ∧ k_ ≠ gb388 ∧ k_ ≠ gb394 ∧ k_ ≠ gb415 ∧ k_ ≠ gb422) (.slice Ao21 t374.length co21) t374) ∧ Aside0 (Kd.V (Kd.int .u64) 46 wc w.heap.size (fun k_ => some k_ ≠ ((.slice (some ad393) y389.length co55) : Value).ownBlock ∧ some k_ ≠ ((.slice Ao81 t411.length co81) : Value).ownBlock ∧ some k_ ≠ ((.slice Ao96 t418.length co96) : Value).ownBlock ∧ k_ ≠ gb371 ∧ k_ ≠ gb377 ∧ k_ ≠ gb383 ∧ k_ ≠ gb388 ∧ k_ ≠ gb394 ∧ k_ ≠ gb415 ∧ k_ ≠ gb422) (.slice Ao29 t380.length co29) t380) ∧ Aside0 (Kd.R (Kd.int .u64) 46 wc w.heap.size (fun k_ => some k_ ≠ ((.slice Ao96 t418.length co96) : Value).ownBlock) (.slice Ao81 t411.length co81) t411) ∧ Aside0 (Kd.R (Kd.int .u64) 46 wc w.heap.size (fun k_ => some k_ ≠ ((.slice Ao81 t411.length co81) : Value).ownBlock) (.slice Ao96 t418.length co96) t418) ∧ Aside0 (wc.heap[gb371]? = some (.cells #[.int .i64 a2_0, .int .i64 a2_1, .int .i64 a2_2, .int .i64 a2_3] 25 (0, 0))) ∧ Aside0 (wc.heap[gb377]? = some (.cells #[.int .i64 t372, .int .i64 t373, (.slice Ao21 t374.length co21)] 24 (0, 0))) ∧ Aside0 (wc.heap[gb383]? = some (.cells #[.int .i64 t378, .int .i64 t379, (.slice Ao29 t380.length co29)] 24 (0, 0))) ∧ Aside0 (wc.heap[gb388]? = some (.cells #[.int .i64 (wrap64 (t384 - 1)), .int .i64 (wrap64 (t385 - 1)), .int .i64 (wrap64 (t386 - 1)), .int .i64 (wrap64 (t387 - 1))] 25 (0, 0))) ∧ Aside0 (wc.heap[gb394]? = some (.cells #[.int .i64 ((rd_T25 y389 x11_1).f0), .int .i64 ((rd_T25 y389 x11_1).f1), .int .i64 ((rd_T25 y389 x11_1).f2), .int .i64 ((rd_T25 y389 x11_1).f3)] 25 (0, 0))) ∧ Aside0 (wc.heap[gb415]? = some (.cells #[.int .i64 t409, .int .i64 t410, (.slice Ao81 t411.length co81)] 32 (0, 0))) ∧ Aside0 (wc.heap[gb422]? = some (.cells #[.int .i64 t416, .int .i64 t417, (.slice Ao96 t418.length co96)] 24 (0, 0))) ∧ Aside0 (Below w.heap.size w wc))
 case first =>
  have H := HC54.out
  clear HC54
  by_cases c97 : t400 = t402
  · rw [if_pos c97] at H
    have c97b0 : (t400 == t402) = true := beq_iff_eq.mpr c97
    have c97b1 : (t400 != t402) = false := bne_eq_false_iff_eq.mpr c97
    clear c97
    (first | rw [c97b0] | (simp only [i64_w, i32_w]; rw [c97b0]) | skip)
    by_cases c98 : (t401 != t403) = true
    · rw [if_pos c98] at H
      have c98b0 : (t401 != t403) = true := c98
      (try (have c98b1 : decide (t401 = t403) = false := by simpa using c98))
      (try (have c98b2 : (t401 == t403) = false := by simpa using c98))
      (try (have c98b3 : ¬ (t401 = t403) := by simpa using c98))
      clear c98
      have H' := Aside0.mk H
      clear H
      try go_wp2
      have n0_ : Aside0 (Kd.R k25 25 (((w88.setCell ⟨gb422, 0, none⟩ (.int .i64 t416)).setCell ⟨gb422, 1, none⟩ (.int .i64 t417)).setCell ⟨gb422, 2, none⟩ (.slice Ao96 t418.length co96)) w.heap.size (fun k_ => k_ ≠ gb371 ∧ k_ ≠ gb388 ∧ k_ ≠ gb394) (.slice (some ad393) y389.length co55) y389) := ⟨rf_ HO_10.out BK422.out (by decide) (fun _ hk => ⟨hk.1.1, ⟨hk.1.2.1, hk.1.2.2⟩⟩)⟩
      have n1_ : Aside0 (Kd.V (Kd.int .u64) 46 (((w88.setCell ⟨gb422, 0, none⟩ (.int .i64 t416)).setCell ⟨gb422, 1, none⟩ (.int .i64 t417)).setCell ⟨gb422, 2, none⟩ (.slice Ao96 t418.length co96)) w.heap.size (fun k_ => some k_ ≠ (.slice (some ad393) y389.length co55 : Value).ownBlock ∧ some k_ ≠ (.slice Ao81 t411.length co81 : Value).ownBlock ∧ some k_ ≠ (.slice Ao96 t418.length co96 : Value).ownBlock ∧ k_ ≠ gb371 ∧ k_ ≠ gb377 ∧ k_ ≠ gb383 ∧ k_ ≠ gb388 ∧ k_ ≠ gb394 ∧ k_ ≠ gb415 ∧ k_ ≠ gb422) (.slice Ao21 t374.length co21) t374) := ⟨by (with_reducible repeat (first | apply Kd.V_alloc | apply Kd.V_drewN | apply Kd.V_drew)); exact Kd.V_mono (Kd.V_far (p := ⟨gb422, 2, none⟩) (Kd.V_far (p := ⟨gb422, 1, none⟩) (Kd.V_far (p := ⟨gb422, 0, none⟩) (Kd.V_mono HO_378002.out (fun k_ hk => (⟨hk, hk.2⟩ : _ ∧ k_ ≠ gb422))) (fun _ hk => hk.2) (.int .i64 t416)) (fun _ hk => hk.2) (.int .i64 t417)) (fun _ hk => hk.2) (.slice Ao96 t418.length co96)) (fun _ hk => ⟨hk.1.1.1.2.1, ⟨hk.1.1.1.1, ⟨hk.1.1.2, ⟨hk.1.1.1.2.2.1, ⟨hk.1.1.1.2.2.2.1, ⟨hk.1.1.1.2.2.2.2.1, ⟨hk.1.1.1.2.2.2.2.2.1, ⟨hk.1.1.1.2.2.2.2.2.2.1, ⟨hk.1.1.1.2.2.2.2.2.2.2, hk.1.2⟩⟩⟩⟩⟩⟩⟩⟩⟩)⟩
      have n2_ : Aside0 (Kd.V (Kd.int .u64) 46 (((w88.setCell ⟨gb422, 0, none⟩ (.int .i64 t416)).setCell ⟨gb422, 1, none⟩ (.int .i64 t417)).setCell ⟨gb422, 2, none⟩ (.slice Ao96 t418.length co96)) w.heap.size (fun k_ => some k_ ≠ (.slice (some ad393) y389.length co55 : Value).ownBlock ∧ some k_ ≠ (.slice Ao81 t411.length co81 : Value).ownBlock ∧ some k_ ≠ (.slice Ao96 t418.length co96 : Value).ownBlock ∧ k_ ≠ gb371 ∧ k_ ≠ gb377 ∧ k_ ≠ gb383 ∧ k_ ≠ gb388 ∧ k_ ≠ gb394 ∧ k_ ≠ gb415 ∧ k_ ≠ gb422) (.slice Ao29 t380.length co29) t380) := ⟨by (with_reducible repeat (first | apply Kd.V_alloc | apply Kd.V_drewN | apply Kd.V_drew)); exact Kd.V_mono (Kd.V_far (p := ⟨gb422, 2, none⟩) (Kd.V_far (p := ⟨gb422, 1, none⟩) (Kd.V_far (p := ⟨gb422, 0, none⟩) (Kd.V_mono HO_384002.out (fun k_ hk => (⟨hk, hk.2⟩ : _ ∧ k_ ≠ gb422))) (fun _ hk => hk.2) (.int .i64 t416)) (fun _ hk => hk.2) (.int .i64 t417)) (fun _ hk => hk.2) (.slice Ao96 t418.length co96)) (fun _ hk => ⟨hk.1.1.1.2.1, ⟨hk.1.1.1.1, ⟨hk.1.1.2, ⟨hk.1.1.1.2.2.1, ⟨hk.1.1.1.2.2.2.1, ⟨hk.1.1.1.2.2.2.2.1, ⟨hk.1.1.1.2.2.2.2.2.1, ⟨hk.1.1.1.2.2.2.2.2.2.1, ⟨hk.1.1.1.2.2.2.2.2.2.2, hk.1.2⟩⟩⟩⟩⟩⟩⟩⟩⟩)⟩
      have n3_ : Aside0 (Kd.V (Kd.int .u64) 46 (((w88.setCell ⟨gb422, 0, none⟩ (.int .i64 t416)).setCell ⟨gb422, 1, none⟩ (.int .i64 t417)).setCell ⟨gb422, 2, none⟩ (.slice Ao96 t418.length co96)) w.heap.size (fun k_ => some k_ ≠ (.slice (some ad393) y389.length co55 : Value).ownBlock ∧ some k_ ≠ (.slice Ao81 t411.length co81 : Value).ownBlock ∧ some k_ ≠ (.slice Ao96 t418.length co96 : Value).ownBlock ∧ k_ ≠ gb371 ∧ k_ ≠ gb377 ∧ k_ ≠ gb383 ∧ k_ ≠ gb388 ∧ k_ ≠ gb394 ∧ k_ ≠ gb415 ∧ k_ ≠ gb422) (.slice Ao65 t397.length co65) t397) := ⟨by (with_reducible repeat (first | apply Kd.V_alloc | apply Kd.V_drewN | apply Kd.V_drew)); exact Kd.V_mono (Kd.V_far (p := ⟨gb422, 2, none⟩) (Kd.V_far (p := ⟨gb422, 1, none⟩) (Kd.V_far (p := ⟨gb422, 0, none⟩) (Kd.V_mono HO399.out (fun k_ hk => (⟨hk, hk.2⟩ : _ ∧ k_ ≠ gb422))) (fun _ hk => hk.2) (.int .i64 t416)) (fun _ hk => hk.2) (.int .i64 t417)) (fun _ hk => hk.2) (.slice Ao96 t418.length co96)) (fun _ hk => ⟨hk.1.1.1.2.1, ⟨hk.1.1.1.1, ⟨hk.1.1.2, ⟨hk.1.1.1.2.2.1, ⟨hk.1.1.1.2.2.2.1, ⟨hk.1.1.1.2.2.2.2.1, ⟨hk.1.1.1.2.2.2.2.2.1, ⟨hk.1.1.1.2.2.2.2.2.2.1, ⟨hk.1.1.1.2.2.2.2.2.2.2, hk.1.2⟩⟩⟩⟩⟩⟩⟩⟩⟩)⟩
      have n4_ : Aside0 (Kd.V (Kd.int .u64) 46 (((w88.setCell ⟨gb422, 0, none⟩ (.int .i64 t416)).setCell ⟨gb422, 1, none⟩ (.int .i64 t417)).setCell ⟨gb422, 2, none⟩ (.slice Ao96 t418.length co96)) w.heap.size (fun k_ => some k_ ≠ (.slice (some ad393) y389.length co55 : Value).ownBlock ∧ some k_ ≠ (.slice Ao81 t411.length co81 : Value).ownBlock ∧ some k_ ≠ (.slice Ao96 t418.length co96 : Value).ownBlock ∧ k_ ≠ gb371 ∧ k_ ≠ gb377 ∧ k_ ≠ gb383 ∧ k_ ≠ gb388 ∧ k_ ≠ gb394 ∧ k_ ≠ gb415 ∧ k_ ≠ gb422) v407 t406) := ⟨by (with_reducible repeat (first | apply Kd.V_alloc | apply Kd.V_drewN | apply Kd.V_drew)); exact Kd.V_mono (Kd.V_far (p := ⟨gb422, 2, none⟩) (Kd.V_far (p := ⟨gb422, 1, none⟩) (Kd.V_far (p := ⟨gb422, 0, none⟩) (Kd.V_mono HO408.out (fun k_ hk => (⟨hk, hk.2⟩ : _ ∧ k_ ≠ gb422))) (fun _ hk => hk.2) (.int .i64 t416)) (fun _ hk => hk.2) (.int .i64 t417)) (fun _ hk => hk.2) (.slice Ao96 t418.length co96)) (fun _ hk => ⟨hk.1.1.1.2.1, ⟨hk.1.1.1.1, ⟨hk.1.1.2, ⟨hk.1.1.1.2.2.1, ⟨hk.1.1.1.2.2.2.1, ⟨hk.1.1.1.2.2.2.2.1, ⟨hk.1.1.1.2.2.2.2.2.1, ⟨hk.1.1.1.2.2.2.2.2.2.1, ⟨hk.1.1.1.2.2.2.2.2.2.2, hk.1.2⟩⟩⟩⟩⟩⟩⟩⟩⟩)⟩
      have n5_ : Aside0 (Kd.R (Kd.int .u64) 46 (((w88.setCell ⟨gb422, 0, none⟩ (.int .i64 t416)).setCell ⟨gb422, 1, none⟩ (.int .i64 t417)).setCell ⟨gb422, 2, none⟩ (.slice Ao96 t418.length co96)) w.heap.size (fun k_ => some k_ ≠ (.slice Ao96 t418.length co96 : Value).ownBlock) (.slice Ao81 t411.length co81) t411) := ⟨rf_ HO413.out BK422.out (by decide) (fun _ hk => hk.1.2)⟩
      have n6_ : Aside0 (Kd.R (Kd.int .u64) 46 (((w88.setCell ⟨gb422, 0, none⟩ (.int .i64 t416)).setCell ⟨gb422, 1, none⟩ (.int .i64 t417)).setCell ⟨gb422, 2, none⟩ (.slice Ao96 t418.length co96)) w.heap.size (fun k_ => some k_ ≠ (.slice Ao81 t411.length co81 : Value).ownBlock) (.slice Ao96 t418.length co96) t418) := ⟨rf_ HO420.out BK422.out (by decide) (fun _ hk => hk.1.2)⟩
      have n7_ : Aside0 ((((w88.setCell ⟨gb422, 0, none⟩ (.int .i64 t416)).setCell ⟨gb422, 1, none⟩ (.int .i64 t417)).setCell ⟨gb422, 2, none⟩ (.slice Ao96 t418.length co96)).heap[gb371]? = some (.cells #[.int .i64 a2_0, .int .i64 a2_1, .int .i64 a2_2, .int .i64 a2_3] 25 (0, 0))) := ⟨hf_ BK371.out NB371_422.out⟩
      have n8_ : Aside0 ((((w88.setCell ⟨gb422, 0, none⟩ (.int .i64 t416)).setCell ⟨gb422, 1, none⟩ (.int .i64 t417)).setCell ⟨gb422, 2, none⟩ (.slice Ao96 t418.length co96)).heap[gb377]? = some (.cells #[.int .i64 t372, .int .i64 t373, .slice Ao21 t374.length co21] 24 (0, 0))) := ⟨hf_ BK377.out NB377_422.out⟩
      have n9_ : Aside0 ((((w88.setCell ⟨gb422, 0, none⟩ (.int .i64 t416)).setCell ⟨gb422, 1, none⟩ (.int .i64 t417)).setCell ⟨gb422, 2, none⟩ (.slice Ao96 t418.length co96)).heap[gb383]? = some (.cells #[.int .i64 t378, .int .i64 t379, .slice Ao29 t380.length co29] 24 (0, 0))) := ⟨hf_ BK383.out NB383_422.out⟩
      have n10_ : Aside0 ((((w88.setCell ⟨gb422, 0, none⟩ (.int .i64 t416)).setCell ⟨gb422, 1, none⟩ (.int .i64 t417)).setCell ⟨gb422, 2, none⟩ (.slice Ao96 t418.length co96)).heap[gb388]? = some (.cells #[.int .i64 (wrap64 (t384 - 1)), .int .i64 (wrap64 (t385 - 1)), .int .i64 (wrap64 (t386 - 1)), .int .i64 (wrap64 (t387 - 1))] 25 (0, 0))) := ⟨hf_ BK388.out NB388_422.out⟩
      have n11_ : Aside0 ((((w88.setCell ⟨gb422, 0, none⟩ (.int .i64 t416)).setCell ⟨gb422, 1, none⟩ (.int .i64 t417)).setCell ⟨gb422, 2, none⟩ (.slice Ao96 t418.length co96)).heap[gb394]? = some (.cells #[.int .i64 ((rd_T25 y389 x11_1).f0), .int .i64 ((rd_T25 y389 x11_1).f1), .int .i64 ((rd_T25 y389 x11_1).f2), .int .i64 ((rd_T25 y389 x11_1).f3)] 25 (0, 0))) := ⟨hf_ BK394.out NB394_422.out⟩
      have n12_ : Aside0 ((((w88.setCell ⟨gb422, 0, none⟩ (.int .i64 t416)).setCell ⟨gb422, 1, none⟩ (.int .i64 t417)).setCell ⟨gb422, 2, none⟩ (.slice Ao96 t418.length co96)).heap[gb415]? = some (.cells #[.int .i64 t409, .int .i64 t410, .slice Ao81 t411.length co81] 32 (0, 0))) := ⟨hf_ BK415.out NB415_422.out⟩
      have n13_ : Aside0 ((((w88.setCell ⟨gb422, 0, none⟩ (.int .i64 t416)).setCell ⟨gb422, 1, none⟩ (.int .i64 t417)).setCell ⟨gb422, 2, none⟩ (.slice Ao96 t418.length co96)).heap[gb422]? = some (.cells #[.int .i64 t416, .int .i64 t417, .slice Ao96 t418.length co96] 24 (0, 0))) := ⟨by (with_reducible repeat (first | refine blk_drewN ?_ _ | refine blk_drew ?_ | refine blk_alloc ?_ _)); refine blk_put (cs := #[.int .i64 t416, .int .i64 t417, .slice none 0 0]) ?_ 2 _ rfl; (with_reducible repeat (first | refine blk_drewN ?_ _ | refine blk_drew ?_ | refine blk_alloc ?_ _)); refine blk_put (cs := #[.int .i64 t416, .int .i64 0, .slice none 0 0]) ?_ 1 _ rfl; (with_reducible repeat (first | refine blk_drewN ?_ _ | refine blk_drew ?_ | refine blk_alloc ?_ _)); refine blk_put (cs := #[.int .i64 0, .int .i64 0, .slice none 0 0]) ?_ 0 _ rfl; (with_reducible repeat (first | refine blk_drewN ?_ _ | refine blk_drew ?_ | refine blk_alloc ?_ _)); exact BK422.out⟩
      have n14_ : Aside0 (Below w.heap.size w (((w88.setCell ⟨gb422, 0, none⟩ (.int .i64 t416)).setCell ⟨gb422, 1, none⟩ (.int .i64 t417)).setCell ⟨gb422, 2, none⟩ (.slice Ao96 t418.length co96))) := ⟨bp_⟩
      (try clear HO_10)
      (try clear HO_378002)
      (try clear HO_384002)
      (try clear HO399)
      (try clear HO408)
      (try clear HO413)
      (try clear HO420)
      (try clear BK371)
      (try clear BK377)
      (try clear BK383)
      (try clear BK388)
      (try clear BK394)
      (try clear BK415)
      (try clear BK422)
      (try clear HB)
      generalize (((w88.setCell ⟨gb422, 0, none⟩ (.int .i64 t416)).setCell ⟨gb422, 1, none⟩ (.int .i64 t417)).setCell ⟨gb422, 2, none⟩ (.slice Ao96 t418.length co96)) = w99 at n0_ n1_ n2_ n3_ n4_ n5_ n6_ n7_ n8_ n9_ n10_ n11_ n12_ n13_ n14_ ⊢
      have HO_10 := n0_
      have HO_378002 := n1_
      have HO_384002 := n2_
      have HO399 := n3_
      have HO408 := n4_
      have HO413 := n5_
      have HO420 := n6_
      have BK371 := n7_
      have BK377 := n8_
      have BK383 := n9_
      have BK388 := n10_
      have BK394 := n11_
      have BK415 := n12_
      have BK422 := n13_
      have HB := n14_
      clear n0_ n1_ n2_ n3_ n4_ n5_ n6_ n7_ n8_ n9_ n10_ n11_ n12_ n13_ n14_
      replace HO_10 := Aside0.mk (Kd.R_drew HO_10.out)
      replace HO_378002 := Aside0.mk (Kd.V_drew HO_378002.out)
      replace HO_384002 := Aside0.mk (Kd.V_drew HO_384002.out)
      replace HO399 := Aside0.mk (Kd.V_drew HO399.out)
      replace HO408 := Aside0.mk (Kd.V_drew HO408.out)
      replace HO413 := Aside0.mk (Kd.R_drew HO413.out)
      replace HO420 := Aside0.mk (Kd.R_drew HO420.out)
      replace BK371 := Aside0.mk (blk_drew BK371.out)
      replace BK377 := Aside0.mk (blk_drew BK377.out)
      replace BK383 := Aside0.mk (blk_drew BK383.out)
      replace BK388 := Aside0.mk (blk_drew BK388.out)
      replace BK394 := Aside0.mk (blk_drew BK394.out)
      replace BK415 := Aside0.mk (blk_drew BK415.out)
      replace BK422 := Aside0.mk (blk_drew BK422.out)
      replace HB := Aside0.mk (below_drew1 HB.out)
      refine start_ (n := 39) (S := fun w' => w'.cell? ⟨gb377, 0, none⟩ = some (.int .i64 t372) ∧ w'.cell? ⟨gb377, 1, none⟩ = some (.int .i64 t373) ∧ w'.cell? ⟨gb377, 2, none⟩ = some (.slice Ao21 t374.length co21) ∧ w'.cell? ⟨gb383, 0, none⟩ = some (.int .i64 t378) ∧ w'.cell? ⟨gb383, 1, none⟩ = some (.int .i64 t379) ∧ w'.cell? ⟨gb383, 2, none⟩ = some (.slice Ao29 t380.length co29) ∧ w'.cell? ⟨gb394, 0, none⟩ = some (.int .i64 ((rd_T25 y389 x11_1).f0)) ∧ w'.cell? ⟨gb394, 1, none⟩ = some (.int .i64 ((rd_T25 y389 x11_1).f1)) ∧ w'.cell? ⟨gb394, 2, none⟩ = some (.int .i64 ((rd_T25 y389 x11_1).f2)) ∧ w'.cell? ⟨gb394, 3, none⟩ = some (.int .i64 ((rd_T25 y389 x11_1).f3)) ∧ w'.cell? ⟨gb415, 0, none⟩ = some (.int .i64 t409) ∧ w'.cell? ⟨gb415, 1, none⟩ = some (.int .i64 t410) ∧ w'.cell? ⟨gb415, 2, none⟩ = some (.slice Ao81 t411.length co81) ∧ w'.cell? ⟨gb422, 0, none⟩ = some (.int .i64 t416) ∧ w'.cell? ⟨gb422, 1, none⟩ = some (.int .i64 t417) ∧ w'.cell? ⟨gb422, 2, none⟩ = some (.slice Ao96 t418.length co96)) (ds := []) Fl98 (by kernel_rfl) rfl rfl ⟨(blk_cell BK377.out 0).trans rfl, (blk_cell BK377.out 1).trans rfl, (blk_cell BK377.out 2).trans rfl, (blk_cell BK383.out 0).trans rfl, (blk_cell BK383.out 1).trans rfl, (blk_cell BK383.out 2).trans rfl, (blk_cell BK394.out 0).trans rfl, (blk_cell BK394.out 1).trans rfl, (blk_cell BK394.out 2).trans rfl, (blk_cell BK394.out 3).trans rfl, (blk_cell BK415.out 0).trans rfl, (blk_cell BK415.out 1).trans rfl, (blk_cell BK415.out 2).trans rfl, (blk_cell BK422.out 0).trans rfl, (blk_cell BK422.out 1).trans rfl, (blk_cell BK422.out 2).trans rfl⟩ (fun hHeld => ?_); refine with_tabW chequerlaw03_RectParts.tab13 chequerlaw03_RectParts.bits13 (fun HT_ HW_ => ?_)
      generalize w99.drew = w100 at HO_10 HO_378002 HO_384002 HO399 HO408 HO413 HO420 BK371 BK377 BK383 BK388 BK394 BK415 BK422 HB hHeld ⊢
      refine pur_ (i := 0) (N := some 99) Fl99 (any_of HT_.out (by kernel_rfl)) ?_
      refine pur_ (i := 1) (N := some 100) Fl100 (any_of HT_.out (by kernel_rfl)) ?_
      refine pur_ (i := 2) (N := some 101) Fl101 (any_of HT_.out (by kernel_rfl)) ?_
      refine pur_ (i := 3) (N := some 102) Fl102 (any_of HT_.out (by kernel_rfl)) ?_
      refine pur_ (i := 4) (N := some 103) Fl103 (any_of HT_.out (by kernel_rfl)) ?_
      refine pur_ (i := 5) (N := some 104) Fl104 (any_of HT_.out (by kernel_rfl)) ?_
      refine pur_ (i := 6) (N := some 105) Fl105 (any_of HT_.out (by kernel_rfl)) ?_
      refine pur_ (i := 7) (N := some 106) Fl106 (any_of HT_.out (by kernel_rfl)) ?_
      refine pur_ (i := 8) (N := some 107) Fl107 (any_of HT_.out (by kernel_rfl)) ?_
      refine pun_ (i := 9) (N := some 108) Fl108 (any_of HT_.out (by kernel_rfl)) ?_
      refine pun_ (i := 10) (N := some 109) Fl109 (any_of HT_.out (by kernel_rfl)) ?_
      refine pun_ (i := 11) (N := some 110) Fl110 (any_of HT_.out (by kernel_rfl)) ?_
      refine pur_ (i := 12) (N := some 111) Fl111 (any_of HT_.out (by kernel_rfl)) ?_
      refine pur_ (i := 13) (N := some 112) Fl112 (any_of HT_.out (by kernel_rfl)) ?_
      refine pun_ (i := 14) (N := some 113) Fl113 (any_of HT_.out (by kernel_rfl)) ?_
      refine pun_ (i := 15) (N := some 114) Fl147 (any_of HT_.out (by kernel_rfl)) ?_
      refine pun_ (i := 16) (N := some 115) Fl114 (any_of HT_.out (by kernel_rfl)) ?_
      refine pun_ (i := 17) (N := some 116) Fl115 (any_of HT_.out (by kernel_rfl)) ?_
      refine pun_ (i := 18) (N := some 117) Fl116 (any_of HT_.out (by kernel_rfl)) ?_
      refine pur_ (i := 19) (N := some 118) Fl117 (any_of HT_.out (by kernel_rfl)) ?_
      refine pur_ (i := 20) (N := some 119) Fl118 (any_of HT_.out (by kernel_rfl)) ?_
      refine pun_ (i := 21) (N := some 120) Fl124 (any_of HT_.out (by kernel_rfl)) ?_
      refine pun_ (i := 22) (N := some 121) Fl125 (any_of HT_.out (by kernel_rfl)) ?_
      refine pun_ (i := 23) (N := some 122) Fl126 (any_of HT_.out (by kernel_rfl)) ?_
      refine pun_ (i := 24) (N := some 123) Fl127 (any_of HT_.out (by kernel_rfl)) ?_
      refine pun_ (i := 25) (N := some 124) Fl128 (any_of HT_.out (by kernel_rfl)) ?_
      refine pun_ (i := 26) (N := some 125) Fl129 (any_of HT_.out (by kernel_rfl)) ?_
      refine pun_ (i := 27) (N := some 126) Fl130 (any_of HT_.out (by kernel_rfl)) ?_
      refine pun_ (i := 28) (N := some 127) Fl131 (any_of HT_.out (by kernel_rfl)) ?_
      refine pun_ (i := 29) (N := some 128) Fl132 (any_of HT_.out (by kernel_rfl)) ?_
      refine pun_ (i := 30) (N := some 129) Fl133 (any_of HT_.out (by kernel_rfl)) ?_
      refine pun_ (i := 31) (N := some 130) Fl134 (any_of HT_.out (by kernel_rfl)) ?_
      refine pun_ (i := 32) (N := some 131) Fl135 (any_of HT_.out (by kernel_rfl)) ?_
      refine pun_ (i := 33) (N := some 132) Fl136 (any_of HT_.out (by kernel_rfl)) ?_
      refine pun_ (i := 34) (N := some 133) Fl137 (any_of HT_.out (by kernel_rfl)) ?_
      refine pun_ (i := 35) (N := some 134) Fl119 (any_of HT_.out (by kernel_rfl)) ?_
      refine pun_ (i := 36) (N := some 135) Fl120 (any_of HT_.out (by kernel_rfl)) ?_
      refine pun_ (i := 37) (N := some 136) Fl121 (any_of HT_.out (by kernel_rfl)) ?_
      refine pur_ (i := 38) (N := some 137) Fl122 (any_of HT_.out (by kernel_rfl)) ?_
      refine done_ (done_of HT_.out (by kernel_rfl)) ?_
      try go_wp2
      go_meet
      case rel => exact ⟨_, (true), (by first | rfl | (simp; done) | (simp [*]; done)), H', ⟨by have := HK1.out; first | omega | exact Nat.le_refl _⟩, ⟨rp_ HO_10.out⟩, ⟨vp_ HO_378002.out⟩, ⟨vp_ HO_384002.out⟩, ⟨rp_ HO413.out⟩, ⟨rp_ HO420.out⟩, ⟨hp_ BK371.out⟩, ⟨hp_ BK377.out⟩, ⟨hp_ BK383.out⟩, ⟨hp_ BK388.out⟩, ⟨hp_ BK394.out⟩, ⟨hp_ BK415.out⟩, ⟨hp_ BK422.out⟩, ⟨bp_⟩⟩
    · rw [if_neg c98] at H
      have c98b0 : (t401 != t403) = false := by simpa using c98
      (try (have c98b1 : decide (t401 = t403) = true := by simpa using c98))
      (try (have c98b2 : (t401 == t403) = true := by simpa using c98))
      clear c98
      by_cases c101 : (t414 != t421) = true
      · rw [if_pos c101] at H
        have c101b0 : (t414 != t421) = true := c101
        (try (have c101b1 : decide (t414 = t421) = false := by simpa using c101))
        (try (have c101b2 : (t414 == t421) = false := by simpa using c101))
        (try (have c101b3 : ¬ (t414 = t421) := by simpa using c101))
        clear c101
        have H' := Aside0.mk H
        clear H
        try go_wp2
        have n0_ : Aside0 (Kd.R k25 25 (((w88.setCell ⟨gb422, 0, none⟩ (.int .i64 t416)).setCell ⟨gb422, 1, none⟩ (.int .i64 t417)).setCell ⟨gb422, 2, none⟩ (.slice Ao96 t418.length co96)) w.heap.size (fun k_ => k_ ≠ gb371 ∧ k_ ≠ gb388 ∧ k_ ≠ gb394) (.slice (some ad393) y389.length co55) y389) := ⟨rf_ HO_10.out BK422.out (by decide) (fun _ hk => ⟨hk.1.1, ⟨hk.1.2.1, hk.1.2.2⟩⟩)⟩
        have n1_ : Aside0 (Kd.V (Kd.int .u64) 46 (((w88.setCell ⟨gb422, 0, none⟩ (.int .i64 t416)).setCell ⟨gb422, 1, none⟩ (.int .i64 t417)).setCell ⟨gb422, 2, none⟩ (.slice Ao96 t418.length co96)) w.heap.size (fun k_ => some k_ ≠ (.slice (some ad393) y389.length co55 : Value).ownBlock ∧ some k_ ≠ (.slice Ao81 t411.length co81 : Value).ownBlock ∧ some k_ ≠ (.slice Ao96 t418.length co96 : Value).ownBlock ∧ k_ ≠ gb371 ∧ k_ ≠ gb377 ∧ k_ ≠ gb383 ∧ k_ ≠ gb388 ∧ k_ ≠ gb394 ∧ k_ ≠ gb415 ∧ k_ ≠ gb422) (.slice Ao21 t374.length co21) t374) := ⟨by (with_reducible repeat (first | apply Kd.V_alloc | apply Kd.V_drewN | apply Kd.V_drew)); exact Kd.V_mono (Kd.V_far (p := ⟨gb422, 2, none⟩) (Kd.V_far (p := ⟨gb422, 1, none⟩) (Kd.V_far (p := ⟨gb422, 0, none⟩) (Kd.V_mono HO_378002.out (fun k_ hk => (⟨hk, hk.2⟩ : _ ∧ k_ ≠ gb422))) (fun _ hk => hk.2) (.int .i64 t416)) (fun _ hk => hk.2) (.int .i64 t417)) (fun _ hk => hk.2) (.slice Ao96 t418.length co96)) (fun _ hk => ⟨hk.1.1.1.2.1, ⟨hk.1.1.1.1, ⟨hk.1.1.2, ⟨hk.1.1.1.2.2.1, ⟨hk.1.1.1.2.2.2.1, ⟨hk.1.1.1.2.2.2.2.1, ⟨hk.1.1.1.2.2.2.2.2.1, ⟨hk.1.1.1.2.2.2.2.2.2.1, ⟨hk.1.1.1.2.2.2.2.2.2.2, hk.1.2⟩⟩⟩⟩⟩⟩⟩⟩⟩)⟩
        have n2_ : Aside0 (Kd.V (Kd.int .u64) 46 (((w88.setCell ⟨gb422, 0, none⟩ (.int .i64 t416)).setCell ⟨gb422, 1, none⟩ (.int .i64 t417)).setCell ⟨gb422, 2, none⟩ (.slice Ao96 t418.length co96)) w.heap.size (fun k_ => some k_ ≠ (.slice (some ad393) y389.length co55 : Value).ownBlock ∧ some k_ ≠ (.slice Ao81 t411.length co81 : Value).ownBlock ∧ some k_ ≠ (.slice Ao96 t418.length co96 : Value).ownBlock ∧ k_ ≠ gb371 ∧ k_ ≠ gb377 ∧ k_ ≠ gb383 ∧ k_ ≠ gb388 ∧ k_ ≠ gb394 ∧ k_ ≠ gb415 ∧ k_ ≠ gb422) (.slice Ao29 t380.length co29) t380) := ⟨by (with_reducible repeat (first | apply Kd.V_alloc | apply Kd.V_drewN | apply Kd.V_drew)); exact Kd.V_mono (Kd.V_far (p := ⟨gb422, 2, none⟩) (Kd.V_far (p := ⟨gb422, 1, none⟩) (Kd.V_far (p := ⟨gb422, 0, none⟩) (Kd.V_mono HO_384002.out (fun k_ hk => (⟨hk, hk.2⟩ : _ ∧ k_ ≠ gb422))) (fun _ hk => hk.2) (.int .i64 t416)) (fun _ hk => hk.2) (.int .i64 t417)) (fun _ hk => hk.2) (.slice Ao96 t418.length co96)) (fun _ hk => ⟨hk.1.1.1.2.1, ⟨hk.1.1.1.1, ⟨hk.1.1.2, ⟨hk.1.1.1.2.2.1, ⟨hk.1.1.1.2.2.2.1, ⟨hk.1.1.1.2.2.2.2.1, ⟨hk.1.1.1.2.2.2.2.2.1, ⟨hk.1.1.1.2.2.2.2.2.2.1, ⟨hk.1.1.1.2.2.2.2.2.2.2, hk.1.2⟩⟩⟩⟩⟩⟩⟩⟩⟩)⟩
        have n3_ : Aside0 (Kd.V (Kd.int .u64) 46 (((w88.setCell ⟨gb422, 0, none⟩ (.int .i64 t416)).setCell ⟨gb422, 1, none⟩ (.int .i64 t417)).setCell ⟨gb422, 2, none⟩ (.slice Ao96 t418.length co96)) w.heap.size (fun k_ => some k_ ≠ (.slice (some ad393) y389.length co55 : Value).ownBlock ∧ some k_ ≠ (.slice Ao81 t411.length co81 : Value).ownBlock ∧ some k_ ≠ (.slice Ao96 t418.length co96 : Value).ownBlock ∧ k_ ≠ gb371 ∧ k_ ≠ gb377 ∧ k_ ≠ gb383 ∧ k_ ≠ gb388 ∧ k_ ≠ gb394 ∧ k_ ≠ gb415 ∧ k_ ≠ gb422) (.slice Ao65 t397.length co65) t397) := ⟨by (with_reducible repeat (first | apply Kd.V_alloc | apply Kd.V_drewN | apply Kd.V_drew)); exact Kd.V_mono (Kd.V_far (p := ⟨gb422, 2, none⟩) (Kd.V_far (p := ⟨gb422, 1, none⟩) (Kd.V_far (p := ⟨gb422, 0, none⟩) (Kd.V_mono HO399.out (fun k_ hk => (⟨hk, hk.2⟩ : _ ∧ k_ ≠ gb422))) (fun _ hk => hk.2) (.int .i64 t416)) (fun _ hk => hk.2) (.int .i64 t417)) (fun _ hk => hk.2) (.slice Ao96 t418.length co96)) (fun _ hk => ⟨hk.1.1.1.2.1, ⟨hk.1.1.1.1, ⟨hk.1.1.2, ⟨hk.1.1.1.2.2.1, ⟨hk.1.1.1.2.2.2.1, ⟨hk.1.1.1.2.2.2.2.1, ⟨hk.1.1.1.2.2.2.2.2.1, ⟨hk.1.1.1.2.2.2.2.2.2.1, ⟨hk.1.1.1.2.2.2.2.2.2.2, hk.1.2⟩⟩⟩⟩⟩⟩⟩⟩⟩)⟩
        have n4_ : Aside0 (Kd.V (Kd.int .u64) 46 (((w88.setCell ⟨gb422, 0, none⟩ (.int .i64 t416)).setCell ⟨gb422, 1, none⟩ (.int .i64 t417)).setCell ⟨gb422, 2, none⟩ (.slice Ao96 t418.length co96)) w.heap.size (fun k_ => some k_ ≠ (.slice (some ad393) y389.length co55 : Value).ownBlock ∧ some k_ ≠ (.slice Ao81 t411.length co81 : Value).ownBlock ∧ some k_ ≠ (.slice Ao96 t418.length co96 : Value).ownBlock ∧ k_ ≠ gb371 ∧ k_ ≠ gb377 ∧ k_ ≠ gb383 ∧ k_ ≠ gb388 ∧ k_ ≠ gb394 ∧ k_ ≠ gb415 ∧ k_ ≠ gb422) v407 t406) := ⟨by (with_reducible repeat (first | apply Kd.V_alloc | apply Kd.V_drewN | apply Kd.V_drew)); exact Kd.V_mono (Kd.V_far (p := ⟨gb422, 2, none⟩) (Kd.V_far (p := ⟨gb422, 1, none⟩) (Kd.V_far (p := ⟨gb422, 0, none⟩) (Kd.V_mono HO408.out (fun k_ hk => (⟨hk, hk.2⟩ : _ ∧ k_ ≠ gb422))) (fun _ hk => hk.2) (.int .i64 t416)) (fun _ hk => hk.2) (.int .i64 t417)) (fun _ hk => hk.2) (.slice Ao96 t418.length co96)) (fun _ hk => ⟨hk.1.1.1.2.1, ⟨hk.1.1.1.1, ⟨hk.1.1.2, ⟨hk.1.1.1.2.2.1, ⟨hk.1.1.1.2.2.2.1, ⟨hk.1.1.1.2.2.2.2.1, ⟨hk.1.1.1.2.2.2.2.2.1, ⟨hk.1.1.1.2.2.2.2.2.2.1, ⟨hk.1.1.1.2.2.2.2.2.2.2, hk.1.2⟩⟩⟩⟩⟩⟩⟩⟩⟩)⟩
        have n5_ : Aside0 (Kd.R (Kd.int .u64) 46 (((w88.setCell ⟨gb422, 0, none⟩ (.int .i64 t416)).setCell ⟨gb422, 1, none⟩ (.int .i64 t417)).setCell ⟨gb422, 2, none⟩ (.slice Ao96 t418.length co96)) w.heap.size (fun k_ => some k_ ≠ (.slice Ao96 t418.length co96 : Value).ownBlock) (.slice Ao81 t411.length co81) t411) := ⟨rf_ HO413.out BK422.out (by decide) (fun _ hk => hk.1.2)⟩
        have n6_ : Aside0 (Kd.R (Kd.int .u64) 46 (((w88.setCell ⟨gb422, 0, none⟩ (.int .i64 t416)).setCell ⟨gb422, 1, none⟩ (.int .i64 t417)).setCell ⟨gb422, 2, none⟩ (.slice Ao96 t418.length co96)) w.heap.size (fun k_ => some k_ ≠ (.slice Ao81 t411.length co81 : Value).ownBlock) (.slice Ao96 t418.length co96) t418) := ⟨rf_ HO420.out BK422.out (by decide) (fun _ hk => hk.1.2)⟩
        have n7_ : Aside0 ((((w88.setCell ⟨gb422, 0, none⟩ (.int .i64 t416)).setCell ⟨gb422, 1, none⟩ (.int .i64 t417)).setCell ⟨gb422, 2, none⟩ (.slice Ao96 t418.length co96)).heap[gb371]? = some (.cells #[.int .i64 a2_0, .int .i64 a2_1, .int .i64 a2_2, .int .i64 a2_3] 25 (0, 0))) := ⟨hf_ BK371.out NB371_422.out⟩
        have n8_ : Aside0 ((((w88.setCell ⟨gb422, 0, none⟩ (.int .i64 t416)).setCell ⟨gb422, 1, none⟩ (.int .i64 t417)).setCell ⟨gb422, 2, none⟩ (.slice Ao96 t418.length co96)).heap[gb377]? = some (.cells #[.int .i64 t372, .int .i64 t373, .slice Ao21 t374.length co21] 24 (0, 0))) := ⟨hf_ BK377.out NB377_422.out⟩
        have n9_ : Aside0 ((((w88.setCell ⟨gb422, 0, none⟩ (.int .i64 t416)).setCell ⟨gb422, 1, none⟩ (.int .i64 t417)).setCell ⟨gb422, 2, none⟩ (.slice Ao96 t418.length co96)).heap[gb383]? = some (.cells #[.int .i64 t378, .int .i64 t379, .slice Ao29 t380.length co29] 24 (0, 0))) := ⟨hf_ BK383.out NB383_422.out⟩
        have n10_ : Aside0 ((((w88.setCell ⟨gb422, 0, none⟩ (.int .i64 t416)).setCell ⟨gb422, 1, none⟩ (.int .i64 t417)).setCell ⟨gb422, 2, none⟩ (.slice Ao96 t418.length co96)).heap[gb388]? = some (.cells #[.int .i64 (wrap64 (t384 - 1)), .int .i64 (wrap64 (t385 - 1)), .int .i64 (wrap64 (t386 - 1)), .int .i64 (wrap64 (t387 - 1))] 25 (0, 0))) := ⟨hf_ BK388.out NB388_422.out⟩
        have n11_ : Aside0 ((((w88.setCell ⟨gb422, 0, none⟩ (.int .i64 t416)).setCell ⟨gb422, 1, none⟩ (.int .i64 t417)).setCell ⟨gb422, 2, none⟩ (.slice Ao96 t418.length co96)).heap[gb394]? = some (.cells #[.int .i64 ((rd_T25 y389 x11_1).f0), .int .i64 ((rd_T25 y389 x11_1).f1), .int .i64 ((rd_T25 y389 x11_1).f2), .int .i64 ((rd_T25 y389 x11_1).f3)] 25 (0, 0))) := ⟨hf_ BK394.out NB394_422.out⟩
        have n12_ : Aside0 ((((w88.setCell ⟨gb422, 0, none⟩ (.int .i64 t416)).setCell ⟨gb422, 1, none⟩ (.int .i64 t417)).setCell ⟨gb422, 2, none⟩ (.slice Ao96 t418.length co96)).heap[gb415]? = some (.cells #[.int .i64 t409, .int .i64 t410, .slice Ao81 t411.length co81] 32 (0, 0))) := ⟨hf_ BK415.out NB415_422.out⟩
        have n13_ : Aside0 ((((w88.setCell ⟨gb422, 0, none⟩ (.int .i64 t416)).setCell ⟨gb422, 1, none⟩ (.int .i64 t417)).setCell ⟨gb422, 2, none⟩ (.slice Ao96 t418.length co96)).heap[gb422]? = some (.cells #[.int .i64 t416, .int .i64 t417, .slice Ao96 t418.length co96] 24 (0, 0))) := ⟨by (with_reducible repeat (first | refine blk_drewN ?_ _ | refine blk_drew ?_ | refine blk_alloc ?_ _)); refine blk_put (cs := #[.int .i64 t416, .int .i64 t417, .slice none 0 0]) ?_ 2 _ rfl; (with_reducible repeat (first | refine blk_drewN ?_ _ | refine blk_drew ?_ | refine blk_alloc ?_ _)); refine blk_put (cs := #[.int .i64 t416, .int .i64 0, .slice none 0 0]) ?_ 1 _ rfl; (with_reducible repeat (first | refine blk_drewN ?_ _ | refine blk_drew ?_ | refine blk_alloc ?_ _)); refine blk_put (cs := #[.int .i64 0, .int .i64 0, .slice none 0 0]) ?_ 0 _ rfl; (with_reducible repeat (first | refine blk_drewN ?_ _ | refine blk_drew ?_ | refine blk_alloc ?_ _)); exact BK422.out⟩
        have n14_ : Aside0 (Below w.heap.size w (((w88.setCell ⟨gb422, 0, none⟩ (.int .i64 t416)).setCell ⟨gb422, 1, none⟩ (.int .i64 t417)).setCell ⟨gb422, 2, none⟩ (.slice Ao96 t418.length co96))) := ⟨bp_⟩
        (try clear HO_10)
        (try clear HO_378002)
        (try clear HO_384002)
        (try clear HO399)
        (try clear HO408)
        (try clear HO413)
        (try clear HO420)
        (try clear BK371)
        (try clear BK377)
        (try clear BK383)
        (try clear BK388)
        (try clear BK394)
        (try clear BK415)
        (try clear BK422)
        (try clear HB)
        generalize (((w88.setCell ⟨gb422, 0, none⟩ (.int .i64 t416)).setCell ⟨gb422, 1, none⟩ (.int .i64 t417)).setCell ⟨gb422, 2, none⟩ (.slice Ao96 t418.length co96)) = w102 at n0_ n1_ n2_ n3_ n4_ n5_ n6_ n7_ n8_ n9_ n10_ n11_ n12_ n13_ n14_ ⊢
        have HO_10 := n0_
        have HO_378002 := n1_
        have HO_384002 := n2_
        have HO399 := n3_
        have HO408 := n4_
        have HO413 := n5_
        have HO420 := n6_
        have BK371 := n7_
        have BK377 := n8_
        have BK383 := n9_
        have BK388 := n10_
        have BK394 := n11_
        have BK415 := n12_
        have BK422 := n13_
        have HB := n14_
        clear n0_ n1_ n2_ n3_ n4_ n5_ n6_ n7_ n8_ n9_ n10_ n11_ n12_ n13_ n14_
        replace HO_10 := Aside0.mk (Kd.R_drew HO_10.out)
        replace HO_378002 := Aside0.mk (Kd.V_drew HO_378002.out)
        replace HO_384002 := Aside0.mk (Kd.V_drew HO_384002.out)
        replace HO399 := Aside0.mk (Kd.V_drew HO399.out)
        replace HO408 := Aside0.mk (Kd.V_drew HO408.out)
        replace HO413 := Aside0.mk (Kd.R_drew HO413.out)
        replace HO420 := Aside0.mk (Kd.R_drew HO420.out)
        replace BK371 := Aside0.mk (blk_drew BK371.out)
        replace BK377 := Aside0.mk (blk_drew BK377.out)
        replace BK383 := Aside0.mk (blk_drew BK383.out)
        replace BK388 := Aside0.mk (blk_drew BK388.out)
        replace BK394 := Aside0.mk (blk_drew BK394.out)
        replace BK415 := Aside0.mk (blk_drew BK415.out)
        replace BK422 := Aside0.mk (blk_drew BK422.out)
        replace HB := Aside0.mk (below_drew1 HB.out)
        refine start_ (n := 39) (S := fun w' => w'.cell? ⟨gb377, 0, none⟩ = some (.int .i64 t372) ∧ w'.cell? ⟨gb377, 1, none⟩ = some (.int .i64 t373) ∧ w'.cell? ⟨gb377, 2, none⟩ = some (.slice Ao21 t374.length co21) ∧ w'.cell? ⟨gb383, 0, none⟩ = some (.int .i64 t378) ∧ w'.cell? ⟨gb383, 1, none⟩ = some (.int .i64 t379) ∧ w'.cell? ⟨gb383, 2, none⟩ = some (.slice Ao29 t380.length co29) ∧ w'.cell? ⟨gb394, 0, none⟩ = some (.int .i64 ((rd_T25 y389 x11_1).f0)) ∧ w'.cell? ⟨gb394, 1, none⟩ = some (.int .i64 ((rd_T25 y389 x11_1).f1)) ∧ w'.cell? ⟨gb394, 2, none⟩ = some (.int .i64 ((rd_T25 y389 x11_1).f2)) ∧ w'.cell? ⟨gb394, 3, none⟩ = some (.int .i64 ((rd_T25 y389 x11_1).f3)) ∧ w'.cell? ⟨gb415, 0, none⟩ = some (.int .i64 t409) ∧ w'.cell? ⟨gb415, 1, none⟩ = some (.int .i64 t410) ∧ w'.cell? ⟨gb415, 2, none⟩ = some (.slice Ao81 t411.length co81) ∧ w'.cell? ⟨gb422, 0, none⟩ = some (.int .i64 t416) ∧ w'.cell? ⟨gb422, 1, none⟩ = some (.int .i64 t417) ∧ w'.cell? ⟨gb422, 2, none⟩ = some (.slice Ao96 t418.length co96)) (ds := []) Fl98 (by kernel_rfl) rfl rfl ⟨(blk_cell BK377.out 0).trans rfl, (blk_cell BK377.out 1).trans rfl, (blk_cell BK377.out 2).trans rfl, (blk_cell BK383.out 0).trans rfl, (blk_cell BK383.out 1).trans rfl, (blk_cell BK383.out 2).trans rfl, (blk_cell BK394.out 0).trans rfl, (blk_cell BK394.out 1).trans rfl, (blk_cell BK394.out 2).trans rfl, (blk_cell BK394.out 3).trans rfl, (blk_cell BK415.out 0).trans rfl, (blk_cell BK415.out 1).trans rfl, (blk_cell BK415.out 2).trans rfl, (blk_cell BK422.out 0).trans rfl, (blk_cell BK422.out 1).trans rfl, (blk_cell BK422.out 2).trans rfl⟩ (fun hHeld => ?_); refine with_tabW chequerlaw03_RectParts.tab13 chequerlaw03_RectParts.bits13 (fun HT_ HW_ => ?_)
        generalize w102.drew = w103 at HO_10 HO_378002 HO_384002 HO399 HO408 HO413 HO420 BK371 BK377 BK383 BK388 BK394 BK415 BK422 HB hHeld ⊢
        refine pur_ (i := 0) (N := some 99) Fl99 (any_of HT_.out (by kernel_rfl)) ?_
        refine pur_ (i := 1) (N := some 100) Fl100 (any_of HT_.out (by kernel_rfl)) ?_
        refine pur_ (i := 2) (N := some 101) Fl101 (any_of HT_.out (by kernel_rfl)) ?_
        refine pur_ (i := 3) (N := some 102) Fl102 (any_of HT_.out (by kernel_rfl)) ?_
        refine pur_ (i := 4) (N := some 103) Fl103 (any_of HT_.out (by kernel_rfl)) ?_
        refine pur_ (i := 5) (N := some 104) Fl104 (any_of HT_.out (by kernel_rfl)) ?_
        refine pur_ (i := 6) (N := some 105) Fl105 (any_of HT_.out (by kernel_rfl)) ?_
        refine pur_ (i := 7) (N := some 106) Fl106 (any_of HT_.out (by kernel_rfl)) ?_
        refine pur_ (i := 8) (N := some 107) Fl107 (any_of HT_.out (by kernel_rfl)) ?_
        refine pur_ (i := 9) (N := some 108) Fl108 (any_of HT_.out (by kernel_rfl)) ?_
        refine pur_ (i := 10) (N := some 109) Fl109 (any_of HT_.out (by kernel_rfl)) ?_
        refine pur_ (i := 11) (N := some 110) Fl110 (any_of HT_.out (by kernel_rfl)) ?_
        refine pur_ (i := 12) (N := some 111) Fl111 (any_of HT_.out (by kernel_rfl)) ?_
        refine pur_ (i := 13) (N := some 112) Fl112 (any_of HT_.out (by kernel_rfl)) ?_
        refine pun_ (i := 14) (N := some 113) Fl113 (any_of HT_.out (by kernel_rfl)) ?_
        refine pun_ (i := 15) (N := some 114) Fl147 (any_of HT_.out (by kernel_rfl)) ?_
        refine pun_ (i := 16) (N := some 115) Fl114 (any_of HT_.out (by kernel_rfl)) ?_
        refine pun_ (i := 17) (N := some 116) Fl115 (any_of HT_.out (by kernel_rfl)) ?_
        refine pun_ (i := 18) (N := some 117) Fl116 (any_of HT_.out (by kernel_rfl)) ?_
        refine pur_ (i := 19) (N := some 118) Fl117 (any_of HT_.out (by kernel_rfl)) ?_
        refine pur_ (i := 20) (N := some 119) Fl118 (any_of HT_.out (by kernel_rfl)) ?_
        refine pun_ (i := 21) (N := some 120) Fl124 (any_of HT_.out (by kernel_rfl)) ?_
        refine pun_ (i := 22) (N := some 121) Fl125 (any_of HT_.out (by kernel_rfl)) ?_
        refine pun_ (i := 23) (N := some 122) Fl126 (any_of HT_.out (by kernel_rfl)) ?_
        refine pun_ (i := 24) (N := some 123) Fl127 (any_of HT_.out (by kernel_rfl)) ?_
        refine pun_ (i := 25) (N := some 124) Fl128 (any_of HT_.out (by kernel_rfl)) ?_
        refine pun_ (i := 26) (N := some 125) Fl129 (any_of HT_.out (by kernel_rfl)) ?_
        refine pun_ (i := 27) (N := some 126) Fl130 (any_of HT_.out (by kernel_rfl)) ?_
        refine pun_ (i := 28) (N := some 127) Fl131 (any_of HT_.out (by kernel_rfl)) ?_
        refine pun_ (i := 29) (N := some 128) Fl132 (any_of HT_.out (by kernel_rfl)) ?_
        refine pun_ (i := 30) (N := some 129) Fl133 (any_of HT_.out (by kernel_rfl)) ?_
        refine pun_ (i := 31) (N := some 130) Fl134 (any_of HT_.out (by kernel_rfl)) ?_
        refine pun_ (i := 32) (N := some 131) Fl135 (any_of HT_.out (by kernel_rfl)) ?_
        refine pun_ (i := 33) (N := some 132) Fl136 (any_of HT_.out (by kernel_rfl)) ?_
        refine pun_ (i := 34) (N := some 133) Fl137 (any_of HT_.out (by kernel_rfl)) ?_
        refine pun_ (i := 35) (N := some 134) Fl119 (any_of HT_.out (by kernel_rfl)) ?_
        refine pun_ (i := 36) (N := some 135) Fl120 (any_of HT_.out (by kernel_rfl)) ?_
        refine pun_ (i := 37) (N := some 136) Fl121 (any_of HT_.out (by kernel_rfl)) ?_
        refine pur_ (i := 38) (N := some 137) Fl122 (any_of HT_.out (by kernel_rfl)) ?_
        refine done_ (done_of HT_.out (by kernel_rfl)) ?_
        try go_wp2
        go_meet
        case rel => exact ⟨_, (true), (by first | rfl | (simp; done) | (simp [*]; done)), H', ⟨by have := HK1.out; first | omega | exact Nat.le_refl _⟩, ⟨rp_ HO_10.out⟩, ⟨vp_ HO_378002.out⟩, ⟨vp_ HO_384002.out⟩, ⟨rp_ HO413.out⟩, ⟨rp_ HO420.out⟩, ⟨hp_ BK371.out⟩, ⟨hp_ BK377.out⟩, ⟨hp_ BK383.out⟩, ⟨hp_ BK388.out⟩, ⟨hp_ BK394.out⟩, ⟨hp_ BK415.out⟩, ⟨hp_ BK422.out⟩, ⟨bp_⟩⟩
      · rw [if_neg c101] at H
        have c101b0 : (t414 != t421) = false := by simpa using c101
        (try (have c101b1 : decide (t414 = t421) = true := by simpa using c101))
        (try (have c101b2 : (t414 == t421) = true := by simpa using c101))
        clear c101
        replace H := Option.bind_eq_some_iff.mp H
        obtain ⟨⟨t423, t424, t425⟩, A1040, H⟩ := H
        replace H : ((chequerref03_Same.f k1 t423 t424 t425 t416 t417 t418).bind fun t428 => (if t428 = true then ((chequerlaw03_of.f t372 t373 t374).bind fun bt429 => ((chequerlaw03_of.f t378 t379 t380).bind fun bt434 => ((rect_Matrix_Has.f k1 bt429.1 bt429.2.1 bt429.2.2 bt434.1 bt434.2.1 bt434.2.2 ((rd_T25 y389 x11_1).f0) ((rd_T25 y389 x11_1).f1)).bind fun t439 => ((chequerref03_Has.f k1 t372 t373 t374 t378 t379 t380 ((rd_T25 y389 x11_1).f0) ((rd_T25 y389 x11_1).f1)).bind fun t440 => (chequerlaw03_RectParts.j1 k1 y389 x11_1 t421 (t439 != t440) t372 t373 t374 t378 t379 t380 ((rd_T25 y389 x11_1).f0) ((rd_T25 y389 x11_1).f1) ((rd_T25 y389 x11_1).f2) ((rd_T25 y389 x11_1).f3) t416 t417 t418))))) else (chequerlaw03_RectParts.j1 k1 y389 x11_1 t421 true t372 t373 t374 t378 t379 t380 ((rd_T25 y389 x11_1).f0) ((rd_T25 y389 x11_1).f1) ((rd_T25 y389 x11_1).f2) ((rd_T25 y389 x11_1).f3) t416 t417 t418))) = some r := H
        have A104 := Aside0.mk A1040
        clear A1040
        replace H := Option.bind_eq_some_iff.mp H
        obtain ⟨t428, A1050, H⟩ := H
        replace H : (if t428 = true then ((chequerlaw03_of.f t372 t373 t374).bind fun bt429 => ((chequerlaw03_of.f t378 t379 t380).bind fun bt434 => ((rect_Matrix_Has.f k1 bt429.1 bt429.2.1 bt429.2.2 bt434.1 bt434.2.1 bt434.2.2 ((rd_T25 y389 x11_1).f0) ((rd_T25 y389 x11_1).f1)).bind fun t439 => ((chequerref03_Has.f k1 t372 t373 t374 t378 t379 t380 ((rd_T25 y389 x11_1).f0) ((rd_T25 y389 x11_1).f1)).bind fun t440 => (chequerlaw03_RectParts.j1 k1 y389 x11_1 t421 (t439 != t440) t372 t373 t374 t378 t379 t380 ((rd_T25 y389 x11_1).f0) ((rd_T25 y389 x11_1).f1) ((rd_T25 y389 x11_1).f2) ((rd_T25 y389 x11_1).f3) t416 t417 t418))))) else (chequerlaw03_RectParts.j1 k1 y389 x11_1 t421 true t372 t373 t374 t378 t379 t380 ((rd_T25 y389 x11_1).f0) ((rd_T25 y389 x11_1).f1) ((rd_T25 y389 x11_1).f2) ((rd_T25 y389 x11_1).f3) t416 t417 t418)) = some r := H
        have A105 := Aside0.mk A1050
        clear A1050
        by_cases c106 : t428 = true
        · subst c106
          have H1 : ((chequerlaw03_of.f t372 t373 t374).bind fun bt429 => ((chequerlaw03_of.f t378 t379 t380).bind fun bt434 => ((rect_Matrix_Has.f k1 bt429.1 bt429.2.1 bt429.2.2 bt434.1 bt434.2.1 bt434.2.2 ((rd_T25 y389 x11_1).f0) ((rd_T25 y389 x11_1).f1)).bind fun t439 => ((chequerref03_Has.f k1 t372 t373 t374 t378 t379 t380 ((rd_T25 y389 x11_1).f0) ((rd_T25 y389 x11_1).f1)).bind fun t440 => (chequerlaw03_RectParts.j1 k1 y389 x11_1 t421 (t439 != t440) t372 t373 t374 t378 t379 t380 ((rd_T25 y389 x11_1).f0) ((rd_T25 y389 x11_1).f1) ((rd_T25 y389 x11_1).f2) ((rd_T25 y389 x11_1).f3) t416 t417 t418))))) = some r := by rw [if_pos rfl] at H; exact H
          clear H
          have H := H1
          clear H1
          replace H := Option.bind_eq_some_iff.mp H
          obtain ⟨⟨t429, t430, t431⟩, A1070, H⟩ := H
          replace H : ((chequerlaw03_of.f t378 t379 t380).bind fun bt434 => ((rect_Matrix_Has.f k1 t429 t430 t431 bt434.1 bt434.2.1 bt434.2.2 ((rd_T25 y389 x11_1).f0) ((rd_T25 y389 x11_1).f1)).bind fun t439 => ((chequerref03_Has.f k1 t372 t373 t374 t378 t379 t380 ((rd_T25 y389 x11_1).f0) ((rd_T25 y389 x11_1).f1)).bind fun t440 => (chequerlaw03_RectParts.j1 k1 y389 x11_1 t421 (t439 != t440) t372 t373 t374 t378 t379 t380 ((rd_T25 y389 x11_1).f0) ((rd_T25 y389 x11_1).f1) ((rd_T25 y389 x11_1).f2) ((rd_T25 y389 x11_1).f3) t416 t417 t418)))) = some r := H
          have A107 := Aside0.mk A1070
          clear A1070
          replace H := Option.bind_eq_some_iff.mp H
          obtain ⟨⟨t434, t435, t436⟩, A1080, H⟩ := H
          replace H : ((rect_Matrix_Has.f k1 t429 t430 t431 t434 t435 t436 ((rd_T25 y389 x11_1).f0) ((rd_T25 y389 x11_1).f1)).bind fun t439 => ((chequerref03_Has.f k1 t372 t373 t374 t378 t379 t380 ((rd_T25 y389 x11_1).f0) ((rd_T25 y389 x11_1).f1)).bind fun t440 => (chequerlaw03_RectParts.j1 k1 y389 x11_1 t421 (t439 != t440) t372 t373 t374 t378 t379 t380 ((rd_T25 y389 x11_1).f0) ((rd_T25 y389 x11_1).f1) ((rd_T25 y389 x11_1).f2) ((rd_T25 y389 x11_1).f3) t416 t417 t418))) = some r := H
          have A108 := Aside0.mk A1080
          clear A1080
          replace H := Option.bind_eq_some_iff.mp H
          obtain ⟨t439, A1090, H⟩ := H
          replace H : ((chequerref03_Has.f k1 t372 t373 t374 t378 t379 t380 ((rd_T25 y389 x11_1).f0) ((rd_T25 y389 x11_1).f1)).bind fun t440 => (chequerlaw03_RectParts.j1 k1 y389 x11_1 t421 (t439 != t440) t372 t373 t374 t378 t379 t380 ((rd_T25 y389 x11_1).f0) ((rd_T25 y389 x11_1).f1) ((rd_T25 y389 x11_1).f2) ((rd_T25 y389 x11_1).f3) t416 t417 t418)) = some r := H
          have A109 := Aside0.mk A1090
          clear A1090
          replace H := Option.bind_eq_some_iff.mp H
          obtain ⟨t440, A1100, H⟩ := H
          replace H : (chequerlaw03_RectParts.j1 k1 y389 x11_1 t421 (t439 != t440) t372 t373 t374 t378 t379 t380 ((rd_T25 y389 x11_1).f0) ((rd_T25 y389 x11_1).f1) ((rd_T25 y389 x11_1).f2) ((rd_T25 y389 x11_1).f3) t416 t417 t418) = some r := H
          have A110 := Aside0.mk A1100
          clear A1100
          have H' := Aside0.mk H
          clear H
          try go_wp2
          have n0_ : Aside0 (Kd.R k25 25 (((w88.setCell ⟨gb422, 0, none⟩ (.int .i64 t416)).setCell ⟨gb422, 1, none⟩ (.int .i64 t417)).setCell ⟨gb422, 2, none⟩ (.slice Ao96 t418.length co96)) w.heap.size (fun k_ => k_ ≠ gb371 ∧ k_ ≠ gb388 ∧ k_ ≠ gb394) (.slice (some ad393) y389.length co55) y389) := ⟨rf_ HO_10.out BK422.out (by decide) (fun _ hk => ⟨hk.1.1, ⟨hk.1.2.1, hk.1.2.2⟩⟩)⟩
          have n1_ : Aside0 (Kd.V (Kd.int .u64) 46 (((w88.setCell ⟨gb422, 0, none⟩ (.int .i64 t416)).setCell ⟨gb422, 1, none⟩ (.int .i64 t417)).setCell ⟨gb422, 2, none⟩ (.slice Ao96 t418.length co96)) w.heap.size (fun k_ => some k_ ≠ (.slice (some ad393) y389.length co55 : Value).ownBlock ∧ some k_ ≠ (.slice Ao81 t411.length co81 : Value).ownBlock ∧ some k_ ≠ (.slice Ao96 t418.length co96 : Value).ownBlock ∧ k_ ≠ gb371 ∧ k_ ≠ gb377 ∧ k_ ≠ gb383 ∧ k_ ≠ gb388 ∧ k_ ≠ gb394 ∧ k_ ≠ gb415 ∧ k_ ≠ gb422) (.slice Ao21 t374.length co21) t374) := ⟨by (with_reducible repeat (first | apply Kd.V_alloc | apply Kd.V_drewN | apply Kd.V_drew)); exact Kd.V_mono (Kd.V_far (p := ⟨gb422, 2, none⟩) (Kd.V_far (p := ⟨gb422, 1, none⟩) (Kd.V_far (p := ⟨gb422, 0, none⟩) (Kd.V_mono HO_378002.out (fun k_ hk => (⟨hk, hk.2⟩ : _ ∧ k_ ≠ gb422))) (fun _ hk => hk.2) (.int .i64 t416)) (fun _ hk => hk.2) (.int .i64 t417)) (fun _ hk => hk.2) (.slice Ao96 t418.length co96)) (fun _ hk => ⟨hk.1.1.1.2.1, ⟨hk.1.1.1.1, ⟨hk.1.1.2, ⟨hk.1.1.1.2.2.1, ⟨hk.1.1.1.2.2.2.1, ⟨hk.1.1.1.2.2.2.2.1, ⟨hk.1.1.1.2.2.2.2.2.1, ⟨hk.1.1.1.2.2.2.2.2.2.1, ⟨hk.1.1.1.2.2.2.2.2.2.2, hk.1.2⟩⟩⟩⟩⟩⟩⟩⟩⟩)⟩
          have n2_ : Aside0 (Kd.V (Kd.int .u64) 46 (((w88.setCell ⟨gb422, 0, none⟩ (.int .i64 t416)).setCell ⟨gb422, 1, none⟩ (.int .i64 t417)).setCell ⟨gb422, 2, none⟩ (.slice Ao96 t418.length co96)) w.heap.size (fun k_ => some k_ ≠ (.slice (some ad393) y389.length co55 : Value).ownBlock ∧ some k_ ≠ (.slice Ao81 t411.length co81 : Value).ownBlock ∧ some k_ ≠ (.slice Ao96 t418.length co96 : Value).ownBlock ∧ k_ ≠ gb371 ∧ k_ ≠ gb377 ∧ k_ ≠ gb383 ∧ k_ ≠ gb388 ∧ k_ ≠ gb394 ∧ k_ ≠ gb415 ∧ k_ ≠ gb422) (.slice Ao29 t380.length co29) t380) := ⟨by (with_reducible repeat (first | apply Kd.V_alloc | apply Kd.V_drewN | apply Kd.V_drew)); exact Kd.V_mono (Kd.V_far (p := ⟨gb422, 2, none⟩) (Kd.V_far (p := ⟨gb422, 1, none⟩) (Kd.V_far (p := ⟨gb422, 0, none⟩) (Kd.V_mono HO_384002.out (fun k_ hk => (⟨hk, hk.2⟩ : _ ∧ k_ ≠ gb422))) (fun _ hk => hk.2) (.int .i64 t416)) (fun _ hk => hk.2) (.int .i64 t417)) (fun _ hk => hk.2) (.slice Ao96 t418.length co96)) (fun _ hk => ⟨hk.1.1.1.2.1, ⟨hk.1.1.1.1, ⟨hk.1.1.2, ⟨hk.1.1.1.2.2.1, ⟨hk.1.1.1.2.2.2.1, ⟨hk.1.1.1.2.2.2.2.1, ⟨hk.1.1.1.2.2.2.2.2.1, ⟨hk.1.1.1.2.2.2.2.2.2.1, ⟨hk.1.1.1.2.2.2.2.2.2.2, hk.1.2⟩⟩⟩⟩⟩⟩⟩⟩⟩)⟩
          have n3_ : Aside0 (Kd.V (Kd.int .u64) 46 (((w88.setCell ⟨gb422, 0, none⟩ (.int .i64 t416)).setCell ⟨gb422, 1, none⟩ (.int .i64 t417)).setCell ⟨gb422, 2, none⟩ (.slice Ao96 t418.length co96)) w.heap.size (fun k_ => some k_ ≠ (.slice (some ad393) y389.length co55 : Value).ownBlock ∧ some k_ ≠ (.slice Ao81 t411.length co81 : Value).ownBlock ∧ some k_ ≠ (.slice Ao96 t418.length co96 : Value).ownBlock ∧ k_ ≠ gb371 ∧ k_ ≠ gb377 ∧ k_ ≠ gb383 ∧ k_ ≠ gb388 ∧ k_ ≠ gb394 ∧ k_ ≠ gb415 ∧ k_ ≠ gb422) (.slice Ao65 t397.length co65) t397) := ⟨by (with_reducible repeat (first | apply Kd.V_alloc | apply Kd.V_drewN | apply Kd.V_drew)); exact Kd.V_mono (Kd.V_far (p := ⟨gb422, 2, none⟩) (Kd.V_far (p := ⟨gb422, 1, none⟩) (Kd.V_far (p := ⟨gb422, 0, none⟩) (Kd.V_mono HO399.out (fun k_ hk => (⟨hk, hk.2⟩ : _ ∧ k_ ≠ gb422))) (fun _ hk => hk.2) (.int .i64 t416)) (fun _ hk => hk.2) (.int .i64 t417)) (fun _ hk => hk.2) (.slice Ao96 t418.length co96)) (fun _ hk => ⟨hk.1.1.1.2.1, ⟨hk.1.1.1.1, ⟨hk.1.1.2, ⟨hk.1.1.1.2.2.1, ⟨hk.1.1.1.2.2.2.1, ⟨hk.1.1.1.2.2.2.2.1, ⟨hk.1.1.1.2.2.2.2.2.1, ⟨hk.1.1.1.2.2.2.2.2.2.1, ⟨hk.1.1.1.2.2.2.2.2.2.2, hk.1.2⟩⟩⟩⟩⟩⟩⟩⟩⟩)⟩
          have n4_ : Aside0 (Kd.V (Kd.int .u64) 46 (((w88.setCell ⟨gb422, 0, none⟩ (.int .i64 t416)).setCell ⟨gb422, 1, none⟩ (.int .i64 t417)).setCell ⟨gb422, 2, none⟩ (.slice Ao96 t418.length co96)) w.heap.size (fun k_ => some k_ ≠ (.slice (some ad393) y389.length co55 : Value).ownBlock ∧ some k_ ≠ (.slice Ao81 t411.length co81 : Value).ownBlock ∧ some k_ ≠ (.slice Ao96 t418.length co96 : Value).ownBlock ∧ k_ ≠ gb371 ∧ k_ ≠ gb377 ∧ k_ ≠ gb383 ∧ k_ ≠ gb388 ∧ k_ ≠ gb394 ∧ k_ ≠ gb415 ∧ k_ ≠ gb422) v407 t406) := ⟨by (with_reducible repeat (first | apply Kd.V_alloc | apply Kd.V_drewN | apply Kd.V_drew)); exact Kd.V_mono (Kd.V_far (p := ⟨gb422, 2, none⟩) (Kd.V_far (p := ⟨gb422, 1, none⟩) (Kd.V_far (p := ⟨gb422, 0, none⟩) (Kd.V_mono HO408.out (fun k_ hk => (⟨hk, hk.2⟩ : _ ∧ k_ ≠ gb422))) (fun _ hk => hk.2) (.int .i64 t416)) (fun _ hk => hk.2) (.int .i64 t417)) (fun _ hk => hk.2) (.slice Ao96 t418.length co96)) (fun _ hk => ⟨hk.1.1.1.2.1, ⟨hk.1.1.1.1, ⟨hk.1.1.2, ⟨hk.1.1.1.2.2.1, ⟨hk.1.1.1.2.2.2.1, ⟨hk.1.1.1.2.2.2.2.1, ⟨hk.1.1.1.2.2.2.2.2.1, ⟨hk.1.1.1.2.2.2.2.2.2.1, ⟨hk.1.1.1.2.2.2.2.2.2.2, hk.1.2⟩⟩⟩⟩⟩⟩⟩⟩⟩)⟩
          have n5_ : Aside0 (Kd.R (Kd.int .u64) 46 (((w88.setCell ⟨gb422, 0, none⟩ (.int .i64 t416)).setCell ⟨gb422, 1, none⟩ (.int .i64 t417)).setCell ⟨gb422, 2, none⟩ (.slice Ao96 t418.length co96)) w.heap.size (fun k_ => some k_ ≠ (.slice Ao96 t418.length co96 : Value).ownBlock) (.slice Ao81 t411.length co81) t411) := ⟨rf_ HO413.out BK422.out (by decide) (fun _ hk => hk.1.2)⟩
          have n6_ : Aside0 (Kd.R (Kd.int .u64) 46 (((w88.setCell ⟨gb422, 0, none⟩ (.int .i64 t416)).setCell ⟨gb422, 1, none⟩ (.int .i64 t417)).setCell ⟨gb422, 2, none⟩ (.slice Ao96 t418.length co96)) w.heap.size (fun k_ => some k_ ≠ (.slice Ao81 t411.length co81 : Value).ownBlock) (.slice Ao96 t418.length co96) t418) := ⟨rf_ HO420.out BK422.out (by decide) (fun _ hk => hk.1.2)⟩
          have n7_ : Aside0 ((((w88.setCell ⟨gb422, 0, none⟩ (.int .i64 t416)).setCell ⟨gb422, 1, none⟩ (.int .i64 t417)).setCell ⟨gb422, 2, none⟩ (.slice Ao96 t418.length co96)).heap[gb371]? = some (.cells #[.int .i64 a2_0, .int .i64 a2_1, .int .i64 a2_2, .int .i64 a2_3] 25 (0, 0))) := ⟨hf_ BK371.out NB371_422.out⟩
          have n8_ : Aside0 ((((w88.setCell ⟨gb422, 0, none⟩ (.int .i64 t416)).setCell ⟨gb422, 1, none⟩ (.int .i64 t417)).setCell ⟨gb422, 2, none⟩ (.slice Ao96 t418.length co96)).heap[gb377]? = some (.cells #[.int .i64 t372, .int .i64 t373, .slice Ao21 t374.length co21] 24 (0, 0))) := ⟨hf_ BK377.out NB377_422.out⟩
          have n9_ : Aside0 ((((w88.setCell ⟨gb422, 0, none⟩ (.int .i64 t416)).setCell ⟨gb422, 1, none⟩ (.int .i64 t417)).setCell ⟨gb422, 2, none⟩ (.slice Ao96 t418.length co96)).heap[gb383]? = some (.cells #[.int .i64 t378, .int .i64 t379, .slice Ao29 t380.length co29] 24 (0, 0))) := ⟨hf_ BK383.out NB383_422.out⟩
          have n10_ : Aside0 ((((w88.setCell ⟨gb422, 0, none⟩ (.int .i64 t416)).setCell ⟨gb422, 1, none⟩ (.int .i64 t417)).setCell ⟨gb422, 2, none⟩ (.slice Ao96 t418.length co96)).heap[gb388]? = some (.cells #[.int .i64 (wrap64 (t384 - 1)), .int .i64 (wrap64 (t385 - 1)), .int .i64 (wrap64 (t386 - 1)), .int .i64 (wrap64 (t387 - 1))] 25 (0, 0))) := ⟨hf_ BK388.out NB388_422.out⟩
          have n11_ : Aside0 ((((w88.setCell ⟨gb422, 0, none⟩ (.int .i64 t416)).setCell ⟨gb422, 1, none⟩ (.int .i64 t417)).setCell ⟨gb422, 2, none⟩ (.slice Ao96 t418.length co96)).heap[gb394]? = some (.cells #[.int .i64 ((rd_T25 y389 x11_1).f0), .int .i64 ((rd_T25 y389 x11_1).f1), .int .i64 ((rd_T25 y389 x11_1).f2), .int .i64 ((rd_T25 y389 x11_1).f3)] 25 (0, 0))) := ⟨hf_ BK394.out NB394_422.out⟩
          have n12_ : Aside0 ((((w88.setCell ⟨gb422, 0, none⟩ (.int .i64 t416)).setCell ⟨gb422, 1, none⟩ (.int .i64 t417)).setCell ⟨gb422, 2, none⟩ (.slice Ao96 t418.length co96)).heap[gb415]? = some (.cells #[.int .i64 t409, .int .i64 t410, .slice Ao81 t411.length co81] 32 (0, 0))) := ⟨hf_ BK415.out NB415_422.out⟩
          have n13_ : Aside0 ((((w88.setCell ⟨gb422, 0, none⟩ (.int .i64 t416)).setCell ⟨gb422, 1, none⟩ (.int .i64 t417)).setCell ⟨gb422, 2, none⟩ (.slice Ao96 t418.length co96)).heap[gb422]? = some (.cells #[.int .i64 t416, .int .i64 t417, .slice Ao96 t418.length co96] 24 (0, 0))) := ⟨by (with_reducible repeat (first | refine blk_drewN ?_ _ | refine blk_drew ?_ | refine blk_alloc ?_ _)); refine blk_put (cs := #[.int .i64 t416, .int .i64 t417, .slice none 0 0]) ?_ 2 _ rfl; (with_reducible repeat (first | refine blk_drewN ?_ _ | refine blk_drew ?_ | refine blk_alloc ?_ _)); refine blk_put (cs := #[.int .i64 t416, .int .i64 0, .slice none 0 0]) ?_ 1 _ rfl; (with_reducible repeat (first | refine blk_drewN ?_ _ | refine blk_drew ?_ | refine blk_alloc ?_ _)); refine blk_put (cs := #[.int .i64 0, .int .i64 0, .slice none 0 0]) ?_ 0 _ rfl; (with_reducible repeat (first | refine blk_drewN ?_ _ | refine blk_drew ?_ | refine blk_alloc ?_ _)); exact BK422.out⟩
          have n14_ : Aside0 (Below w.heap.size w (((w88.setCell ⟨gb422, 0, none⟩ (.int .i64 t416)).setCell ⟨gb422, 1, none⟩ (.int .i64 t417)).setCell ⟨gb422, 2, none⟩ (.slice Ao96 t418.length co96))) := ⟨bp_⟩
          (try clear HO_10)
          (try clear HO_378002)
          (try clear HO_384002)
          (try clear HO399)
          (try clear HO408)
          (try clear HO413)
          (try clear HO420)
          (try clear BK371)
          (try clear BK377)
          (try clear BK383)
          (try clear BK388)
          (try clear BK394)
          (try clear BK415)
          (try clear BK422)
          (try clear HB)
          generalize (((w88.setCell ⟨gb422, 0, none⟩ (.int .i64 t416)).setCell ⟨gb422, 1, none⟩ (.int .i64 t417)).setCell ⟨gb422, 2, none⟩ (.slice Ao96 t418.length co96)) = w111 at n0_ n1_ n2_ n3_ n4_ n5_ n6_ n7_ n8_ n9_ n10_ n11_ n12_ n13_ n14_ ⊢
          have HO_10 := n0_
          have HO_378002 := n1_
          have HO_384002 := n2_
          have HO399 := n3_
          have HO408 := n4_
          have HO413 := n5_
          have HO420 := n6_
          have BK371 := n7_
          have BK377 := n8_
          have BK383 := n9_
          have BK388 := n10_
          have BK394 := n11_
          have BK415 := n12_
          have BK422 := n13_
          have HB := n14_
          clear n0_ n1_ n2_ n3_ n4_ n5_ n6_ n7_ n8_ n9_ n10_ n11_ n12_ n13_ n14_
          replace HO_10 := Aside0.mk (Kd.R_drew HO_10.out)
          replace HO_378002 := Aside0.mk (Kd.V_drew HO_378002.out)
          replace HO_384002 := Aside0.mk (Kd.V_drew HO_384002.out)
          replace HO399 := Aside0.mk (Kd.V_drew HO399.out)
          replace HO408 := Aside0.mk (Kd.V_drew HO408.out)
          replace HO413 := Aside0.mk (Kd.R_drew HO413.out)
          replace HO420 := Aside0.mk (Kd.R_drew HO420.out)
          replace BK371 := Aside0.mk (blk_drew BK371.out)
          replace BK377 := Aside0.mk (blk_drew BK377.out)
          replace BK383 := Aside0.mk (blk_drew BK383.out)
          replace BK388 := Aside0.mk (blk_drew BK388.out)
          replace BK394 := Aside0.mk (blk_drew BK394.out)
          replace BK415 := Aside0.mk (blk_drew BK415.out)
          replace BK422 := Aside0.mk (blk_drew BK422.out)
          replace HB := Aside0.mk (below_drew1 HB.out)
          refine start_ (n := 39) (S := fun w' => w'.cell? ⟨gb377, 0, none⟩ = some (.int .i64 t372) ∧ w'.cell? ⟨gb377, 1, none⟩ = some (.int .i64 t373) ∧ w'.cell? ⟨gb377, 2, none⟩ = some (.slice Ao21 t374.length co21) ∧ w'.cell? ⟨gb383, 0, none⟩ = some (.int .i64 t378) ∧ w'.cell? ⟨gb383, 1, none⟩ = some (.int .i64 t379) ∧ w'.cell? ⟨gb383, 2, none⟩ = some (.slice Ao29 t380.length co29) ∧ w'.cell? ⟨gb394, 0, none⟩ = some (.int .i64 ((rd_T25 y389 x11_1).f0)) ∧ w'.cell? ⟨gb394, 1, none⟩ = some (.int .i64 ((rd_T25 y389 x11_1).f1)) ∧ w'.cell? ⟨gb394, 2, none⟩ = some (.int .i64 ((rd_T25 y389 x11_1).f2)) ∧ w'.cell? ⟨gb394, 3, none⟩ = some (.int .i64 ((rd_T25 y389 x11_1).f3)) ∧ w'.cell? ⟨gb415, 0, none⟩ = some (.int .i64 t409) ∧ w'.cell? ⟨gb415, 1, none⟩ = some (.int .i64 t410) ∧ w'.cell? ⟨gb415, 2, none⟩ = some (.slice Ao81 t411.length co81) ∧ w'.cell? ⟨gb422, 0, none⟩ = some (.int .i64 t416) ∧ w'.cell? ⟨gb422, 1, none⟩ = some (.int .i64 t417) ∧ w'.cell? ⟨gb422, 2, none⟩ = some (.slice Ao96 t418.length co96)) (ds := []) Fl98 (by kernel_rfl) rfl rfl ⟨(blk_cell BK377.out 0).trans rfl, (blk_cell BK377.out 1).trans rfl, (blk_cell BK377.out 2).trans rfl, (blk_cell BK383.out 0).trans rfl, (blk_cell BK383.out 1).trans rfl, (blk_cell BK383.out 2).trans rfl, (blk_cell BK394.out 0).trans rfl, (blk_cell BK394.out 1).trans rfl, (blk_cell BK394.out 2).trans rfl, (blk_cell BK394.out 3).trans rfl, (blk_cell BK415.out 0).trans rfl, (blk_cell BK415.out 1).trans rfl, (blk_cell BK415.out 2).trans rfl, (blk_cell BK422.out 0).trans rfl, (blk_cell BK422.out 1).trans rfl, (blk_cell BK422.out 2).trans rfl⟩ (fun hHeld => ?_); refine with_tabW chequerlaw03_RectParts.tab13 chequerlaw03_RectParts.bits13 (fun HT_ HW_ => ?_)
          generalize w111.drew = w112 at HO_10 HO_378002 HO_384002 HO399 HO408 HO413 HO420 BK371 BK377 BK383 BK388 BK394 BK415 BK422 HB hHeld ⊢
          refine pur_ (i := 0) (N := some 99) Fl99 (any_of HT_.out (by kernel_rfl)) ?_
          refine pur_ (i := 1) (N := some 100) Fl100 (any_of HT_.out (by kernel_rfl)) ?_
          refine pur_ (i := 2) (N := some 101) Fl101 (any_of HT_.out (by kernel_rfl)) ?_
          refine pur_ (i := 3) (N := some 102) Fl102 (any_of HT_.out (by kernel_rfl)) ?_
          refine pur_ (i := 4) (N := some 103) Fl103 (any_of HT_.out (by kernel_rfl)) ?_
          refine pur_ (i := 5) (N := some 104) Fl104 (any_of HT_.out (by kernel_rfl)) ?_
          refine pur_ (i := 6) (N := some 105) Fl105 (any_of HT_.out (by kernel_rfl)) ?_
          refine pur_ (i := 7) (N := some 106) Fl106 (any_of HT_.out (by kernel_rfl)) ?_
          refine pur_ (i := 8) (N := some 107) Fl107 (any_of HT_.out (by kernel_rfl)) ?_
          refine pur_ (i := 9) (N := some 108) Fl108 (any_of HT_.out (by kernel_rfl)) ?_
          refine pur_ (i := 10) (N := some 109) Fl109 (any_of HT_.out (by kernel_rfl)) ?_
          refine pur_ (i := 11) (N := some 110) Fl110 (any_of HT_.out (by kernel_rfl)) ?_
          refine pur_ (i := 12) (N := some 111) Fl111 (any_of HT_.out (by kernel_rfl)) ?_
          refine pur_ (i := 13) (N := some 112) Fl112 (any_of HT_.out (by kernel_rfl)) ?_
          refine take_ (i := 14) (N := some 113) (v := ?_) (a' := ?_) Fl113 rfl rfl (take_ofW HT_.out HW_.out (by kernel_rfl)) (fun _ _ _ h => h) (Or.inl ⟨by rfl, ?_⟩) hHeld ?_ ?_
          rotate_left
          · rintro w' ⟨s0, s1, s2, s3, s4, s5, s6, s7, s8, s9, s10, s11, s12, s13, s14, s15⟩
            go_simp
            with_reducible rfl
          rotate_left
          · simp only [Act.put, List.setIfInBounds_toArray, List.set_cons_zero, List.set_cons_succ, i64_w, i32_w]
            rfl
          refine take_ (i := 16) (N := some 115) (v := ?_) (a' := ?_) Fl165 rfl rfl (take_ofW HT_.out HW_.out (by kernel_rfl)) (fun _ _ _ h => h) (Or.inl ⟨by rfl, ?_⟩) hHeld ?_ ?_
          rotate_left
          · rintro w' ⟨s0, s1, s2, s3, s4, s5, s6, s7, s8, s9, s10, s11, s12, s13, s14, s15⟩
            go_simp
            with_reducible rfl
          rotate_left
          · simp only [Act.put, List.setIfInBounds_toArray, List.set_cons_zero, List.set_cons_succ, i64_w, i32_w]
            rfl
          refine one_ (i := 15) (N := some 114) Fl114 rfl rfl (one_of HT_.out (by kernel_rfl)) (by decide) (fun K hK => ?_)
          refine goes_ Try.func27 (by kernel_rfl) rfl #[.agg #[.int .i64 t409, .int .i64 t410, .slice Ao81 t411.length co81]] (by rfl) rfl rfl (by (try simp only [List.map_toArray, List.map_cons, List.map_nil]); first | done | rfl | (simp only [List.length_drop, List.length_take]; rfl)) ?_
          with_reducible refine (chequerlaw03_as.calls t409 t410 (fun k_ => some k_ = (.slice Ao81 t411.length co81 : Value).ownBlock) _ _ t411 t423 t424 t425 _ ?side1 A104.out).mono ?_
          (case side1 => exact Kd.R_V (Kd.R_tight rfl (Kd.R_types (Kd.R_types (Kd.R_types (Kd.R_types (Kd.R_types (Kd.R_types (Kd.R_types (Kd.R_apart' (HO413.out) (Kd.R_typed HO_10.out) (by decide)) BK371.out (by decide)) BK377.out (by decide)) BK383.out (by decide)) BK388.out (by decide)) BK394.out (by decide)) BK415.out (by decide)) BK422.out (by decide))))
          rintro e w113 ⟨v426, rfl, ho0, hb⟩
          refine ⟨_, rfl, ?_⟩
          replace HO_378002 := Aside0.mk (Kd.V_below (vp_ HO_378002.out) hb)
          replace HO_384002 := Aside0.mk (Kd.V_below (vp_ HO_384002.out) hb)
          replace HO399 := Aside0.mk (Kd.V_below (vp_ HO399.out) hb)
          replace HO408 := Aside0.mk (Kd.V_below (vp_ HO408.out) hb)
          have HO427 := Aside0.mk (Kd.V_lower (Kd.V_mono (ok' := fun k_ => some k_ ≠ (.slice (some ad393) y389.length co55 : Value).ownBlock ∧ some k_ ≠ (.slice Ao96 t418.length co96 : Value).ownBlock ∧ k_ ≠ gb371 ∧ k_ ≠ gb377 ∧ k_ ≠ gb383 ∧ k_ ≠ gb388 ∧ k_ ≠ gb394 ∧ k_ ≠ gb415 ∧ k_ ≠ gb422) ho0 (fun k_ hk_ => ⟨Or.elim hk_ (fun hs_ => ((Kd.R_types (Kd.R_types (Kd.R_types (Kd.R_types (Kd.R_types (Kd.R_types (Kd.R_types (Kd.R_apart' (HO413.out) (Kd.R_typed HO_10.out) (by decide)) BK371.out (by decide)) BK377.out (by decide)) BK383.out (by decide)) BK388.out (by decide)) BK394.out (by decide)) BK415.out (by decide)) BK422.out (by decide)).1 k_ hs_.symm).1.1.1.1.1.1.1.2) (fun hn_ => (Kd.fresh' (Kd.R_lt (rp_ HO_10.out)) k_ hn_)), Or.elim hk_ (fun hs_ => ((Kd.R_types (Kd.R_types (Kd.R_types (Kd.R_types (Kd.R_types (Kd.R_types (Kd.R_types (Kd.R_apart' (HO413.out) (Kd.R_typed HO_10.out) (by decide)) BK371.out (by decide)) BK377.out (by decide)) BK383.out (by decide)) BK388.out (by decide)) BK394.out (by decide)) BK415.out (by decide)) BK422.out (by decide)).1 k_ hs_.symm).1.1.1.1.1.1.1.1) (fun hn_ => (Kd.fresh' (Kd.R_lt (rp_ HO420.out)) k_ hn_)), Or.elim hk_ (fun hs_ => ((Kd.R_types (Kd.R_types (Kd.R_types (Kd.R_types (Kd.R_types (Kd.R_types (Kd.R_types (Kd.R_apart' (HO413.out) (Kd.R_typed HO_10.out) (by decide)) BK371.out (by decide)) BK377.out (by decide)) BK383.out (by decide)) BK388.out (by decide)) BK394.out (by decide)) BK415.out (by decide)) BK422.out (by decide)).1 k_ hs_.symm).1.1.1.1.1.1.2) (fun hn_ => (Kd.freshB (g := gb371) (o := .cells #[.int .i64 a2_0, .int .i64 a2_1, .int .i64 a2_2, .int .i64 a2_3] 25 (0, 0)) (hp_ BK371.out) k_ hn_)), Or.elim hk_ (fun hs_ => ((Kd.R_types (Kd.R_types (Kd.R_types (Kd.R_types (Kd.R_types (Kd.R_types (Kd.R_types (Kd.R_apart' (HO413.out) (Kd.R_typed HO_10.out) (by decide)) BK371.out (by decide)) BK377.out (by decide)) BK383.out (by decide)) BK388.out (by decide)) BK394.out (by decide)) BK415.out (by decide)) BK422.out (by decide)).1 k_ hs_.symm).1.1.1.1.1.2) (fun hn_ => (Kd.freshB (g := gb377) (o := .cells #[.int .i64 t372, .int .i64 t373, .slice Ao21 t374.length co21] 24 (0, 0)) (hp_ BK377.out) k_ hn_)), Or.elim hk_ (fun hs_ => ((Kd.R_types (Kd.R_types (Kd.R_types (Kd.R_types (Kd.R_types (Kd.R_types (Kd.R_types (Kd.R_apart' (HO413.out) (Kd.R_typed HO_10.out) (by decide)) BK371.out (by decide)) BK377.out (by decide)) BK383.out (by decide)) BK388.out (by decide)) BK394.out (by decide)) BK415.out (by decide)) BK422.out (by decide)).1 k_ hs_.symm).1.1.1.1.2) (fun hn_ => (Kd.freshB (g := gb383) (o := .cells #[.int .i64 t378, .int .i64 t379, .slice Ao29 t380.length co29] 24 (0, 0)) (hp_ BK383.out) k_ hn_)), Or.elim hk_ (fun hs_ => ((Kd.R_types (Kd.R_types (Kd.R_types (Kd.R_types (Kd.R_types (Kd.R_types (Kd.R_types (Kd.R_apart' (HO413.out) (Kd.R_typed HO_10.out) (by decide)) BK371.out (by decide)) BK377.out (by decide)) BK383.out (by decide)) BK388.out (by decide)) BK394.out (by decide)) BK415.out (by decide)) BK422.out (by decide)).1 k_ hs_.symm).1.1.1.2) (fun hn_ => (Kd.freshB (g := gb388) (o := .cells #[.int .i64 (wrap64 (t384 - 1)), .int .i64 (wrap64 (t385 - 1)), .int .i64 (wrap64 (t386 - 1)), .int .i64 (wrap64 (t387 - 1))] 25 (0, 0)) (hp_ BK388.out) k_ hn_)), Or.elim hk_ (fun hs_ => ((Kd.R_types (Kd.R_types (Kd.R_types (Kd.R_types (Kd.R_types (Kd.R_types (Kd.R_types (Kd.R_apart' (HO413.out) (Kd.R_typed HO_10.out) (by decide)) BK371.out (by decide)) BK377.out (by decide)) BK383.out (by decide)) BK388.out (by decide)) BK394.out (by decide)) BK415.out (by decide)) BK422.out (by decide)).1 k_ hs_.symm).1.1.2) (fun hn_ => (Kd.freshB (g := gb394) (o := .cells #[.int .i64 ((rd_T25 y389 x11_1).f0), .int .i64 ((rd_T25 y389 x11_1).f1), .int .i64 ((rd_T25 y389 x11_1).f2), .int .i64 ((rd_T25 y389 x11_1).f3)] 25 (0, 0)) (hp_ BK394.out) k_ hn_)), Or.elim hk_ (fun hs_ => ((Kd.R_types (Kd.R_types (Kd.R_types (Kd.R_types (Kd.R_types (Kd.R_types (Kd.R_types (Kd.R_apart' (HO413.out) (Kd.R_typed HO_10.out) (by decide)) BK371.out (by decide)) BK377.out (by decide)) BK383.out (by decide)) BK388.out (by decide)) BK394.out (by decide)) BK415.out (by decide)) BK422.out (by decide)).1 k_ hs_.symm).1.2) (fun hn_ => (Kd.freshB (g := gb415) (o := .cells #[.int .i64 t409, .int .i64 t410, .slice Ao81 t411.length co81] 32 (0, 0)) (hp_ BK415.out) k_ hn_)), Or.elim hk_ (fun hs_ => ((Kd.R_types (Kd.R_types (Kd.R_types (Kd.R_types (Kd.R_types (Kd.R_types (Kd.R_types (Kd.R_apart' (HO413.out) (Kd.R_typed HO_10.out) (by decide)) BK371.out (by decide)) BK377.out (by decide)) BK383.out (by decide)) BK388.out (by decide)) BK394.out (by decide)) BK415.out (by decide)) BK422.out (by decide)).1 k_ hs_.symm).2) (fun hn_ => (Kd.freshB (g := gb422) (o := .cells #[.int .i64 t416, .int .i64 t417, .slice Ao96 t418.length co96] 24 (0, 0)) (hp_ BK422.out) k_ hn_))⟩)) (below_size bp_))
          replace HO_10 := Aside0.mk (Kd.R_below (rp_ HO_10.out) hb)
          replace HO413 := Aside0.mk (Kd.R_below (rp_ HO413.out) hb)
          replace HO420 := Aside0.mk (Kd.R_below (rp_ HO420.out) hb)
          replace BK371 := Aside0.mk (blk_below (hp_ BK371.out) hb)
          replace BK377 := Aside0.mk (blk_below (hp_ BK377.out) hb)
          replace BK383 := Aside0.mk (blk_below (hp_ BK383.out) hb)
          replace BK388 := Aside0.mk (blk_below (hp_ BK388.out) hb)
          replace BK394 := Aside0.mk (blk_below (hp_ BK394.out) hb)
          replace BK415 := Aside0.mk (blk_below (hp_ BK415.out) hb)
          replace BK422 := Aside0.mk (blk_below (hp_ BK422.out) hb)
          replace HB := Aside0.mk (below_step bp_ hb)
          (try clear hb)
          (try clear hb2)
          (try clear hk)
          (try clear hi)
          (try clear ho0)
          obtain ⟨Ao114, co114, eo114⟩ := Kd.V_slice HO427.out
          (first | subst eo114 | (injection eo114 with f1_ f2_ f3_; have f4_ := f1_.symm; have f5_ := f3_.symm; clear f1_ f2_ f3_; subst f4_; subst f5_))
          refine hK.out _ _ ⟨(blk_cell BK377.out 0).trans rfl, (blk_cell BK377.out 1).trans rfl, (blk_cell BK377.out 2).trans rfl, (blk_cell BK383.out 0).trans rfl, (blk_cell BK383.out 1).trans rfl, (blk_cell BK383.out 2).trans rfl, (blk_cell BK394.out 0).trans rfl, (blk_cell BK394.out 1).trans rfl, (blk_cell BK394.out 2).trans rfl, (blk_cell BK394.out 3).trans rfl, (blk_cell BK415.out 0).trans rfl, (blk_cell BK415.out 1).trans rfl, (blk_cell BK415.out 2).trans rfl, (blk_cell BK422.out 0).trans rfl, (blk_cell BK422.out 1).trans rfl, (blk_cell BK422.out 2).trans rfl⟩ (fun hHeld => ?_)
          clear hK K
          refine norm_ (a' := ?_) ?_ ?_
          rotate_left
          · show Act.put _ (some 114) _ = _
            simp only [Act.put, List.setIfInBounds_toArray, List.set_cons_zero, List.set_cons_succ, i64_w, i32_w]
            rfl
          refine one_ (i := 17) (N := some 116) Fl115 rfl rfl (one_of HT_.out (by kernel_rfl)) (by decide) (fun K hK => ?_)
          refine goes_ Try.func26 (by kernel_rfl) rfl #[.agg #[.int .i64 t423, .int .i64 t424, .slice Ao114 t425.length co114], .agg #[.int .i64 t416, .int .i64 t417, .slice Ao96 t418.length co96]] (by rfl) rfl rfl (by (try simp only [List.map_toArray, List.map_cons, List.map_nil]); first | done | rfl | (simp only [List.length_drop, List.length_take]; rfl)) ?_
          with_reducible refine (chequerref03_Same.calls k1 t423 t424 _ _ t425 t416 t417 _ _ t418 true _ ?side1 ?side2 ?side3 ?side4 A105.out).mono ?_
          (case side1 => exact cp_ (Kd.V_reads' HO427.out).2.2)
          (case side2 => exact (Kd.V_reads' HO427.out).2.1)
          (case side3 => exact cp_ (Kd.R_reads' HO420.out).2.2)
          (case side4 => exact (Kd.R_reads' HO420.out).2.1)
          rintro e w115 ⟨rfl, hb⟩
          refine ⟨_, rfl, ?_⟩
          replace HO_10 := Aside0.mk (Kd.R_below (rp_ HO_10.out) hb)
          replace HO_378002 := Aside0.mk (Kd.V_below (vp_ HO_378002.out) hb)
          replace HO_384002 := Aside0.mk (Kd.V_below (vp_ HO_384002.out) hb)
          replace HO399 := Aside0.mk (Kd.V_below (vp_ HO399.out) hb)
          replace HO408 := Aside0.mk (Kd.V_below (vp_ HO408.out) hb)
          replace HO413 := Aside0.mk (Kd.R_below (rp_ HO413.out) hb)
          replace HO420 := Aside0.mk (Kd.R_below (rp_ HO420.out) hb)
          replace HO427 := Aside0.mk (Kd.V_below (vp_ HO427.out) hb)
          replace BK371 := Aside0.mk (blk_below (hp_ BK371.out) hb)
          replace BK377 := Aside0.mk (blk_below (hp_ BK377.out) hb)
          replace BK383 := Aside0.mk (blk_below (hp_ BK383.out) hb)
          replace BK388 := Aside0.mk (blk_below (hp_ BK388.out) hb)
          replace BK394 := Aside0.mk (blk_below (hp_ BK394.out) hb)
          replace BK415 := Aside0.mk (blk_below (hp_ BK415.out) hb)
          replace BK422 := Aside0.mk (blk_below (hp_ BK422.out) hb)
          replace HB := Aside0.mk (below_step bp_ hb)
          (try clear hb)
          (try clear hb2)
          (try clear hk)
          (try clear hi)
          refine hK.out _ _ ⟨(blk_cell BK377.out 0).trans rfl, (blk_cell BK377.out 1).trans rfl, (blk_cell BK377.out 2).trans rfl, (blk_cell BK383.out 0).trans rfl, (blk_cell BK383.out 1).trans rfl, (blk_cell BK383.out 2).trans rfl, (blk_cell BK394.out 0).trans rfl, (blk_cell BK394.out 1).trans rfl, (blk_cell BK394.out 2).trans rfl, (blk_cell BK394.out 3).trans rfl, (blk_cell BK415.out 0).trans rfl, (blk_cell BK415.out 1).trans rfl, (blk_cell BK415.out 2).trans rfl, (blk_cell BK422.out 0).trans rfl, (blk_cell BK422.out 1).trans rfl, (blk_cell BK422.out 2).trans rfl⟩ (fun hHeld => ?_)
          clear hK K
          refine norm_ (a' := ?_) ?_ ?_
          rotate_left
          · show Act.put _ (some 116) _ = _
            simp only [Act.put, List.setIfInBounds_toArray, List.set_cons_zero, List.set_cons_succ, i64_w, i32_w]
            rfl
          refine pur_ (i := 18) (N := some 117) Fl116 (any_of HT_.out (by kernel_rfl)) ?_
          refine pur_ (i := 19) (N := some 118) Fl117 (any_of HT_.out (by kernel_rfl)) ?_
          refine pur_ (i := 20) (N := some 119) Fl118 (any_of HT_.out (by kernel_rfl)) ?_
          refine pur_ (i := 25) (N := some 124) #[true, true, true, true, true, true, true, true, true, true, true, true, true, true, true, true, true, true, true, true, true, false, false, false, false, true, false, false, false, false, false, false, false, false, false, false, false, false, false] (any_of HT_.out (by kernel_rfl)) ?_
          refine pur_ (i := 27) (N := some 126) #[true, true, true, true, true, true, true, true, true, true, true, true, true, true, true, true, true, true, true, true, true, false, false, false, false, true, false, true, false, false, false, false, false, false, false, false, false, false, false] (any_of HT_.out (by kernel_rfl)) ?_
          refine pur_ (i := 32) (N := some 131) #[true, true, true, true, true, true, true, true, true, true, true, true, true, true, true, true, true, true, true, true, true, false, false, false, false, true, false, true, false, false, false, false, true, false, false, false, false, false, false] (any_of HT_.out (by kernel_rfl)) ?_
          refine pur_ (i := 34) (N := some 133) #[true, true, true, true, true, true, true, true, true, true, true, true, true, true, true, true, true, true, true, true, true, false, false, false, false, true, false, true, false, false, false, false, true, false, true, false, false, false, false] (any_of HT_.out (by kernel_rfl)) ?_
          refine take_ (i := 21) (N := some 120) (v := ?_) (a' := ?_) #[true, true, true, true, true, true, true, true, true, true, true, true, true, true, true, true, true, true, true, true, true, true, false, false, false, true, false, true, false, false, false, false, true, false, true, false, false, false, false] rfl rfl (take_ofW HT_.out HW_.out (by kernel_rfl)) (fun _ _ _ h => h) (Or.inl ⟨by rfl, ?_⟩) hHeld ?_ ?_
          rotate_left
          · rintro w' ⟨s0, s1, s2, s3, s4, s5, s6, s7, s8, s9, s10, s11, s12, s13, s14, s15⟩
            go_simp
            with_reducible rfl
          rotate_left
          · simp only [Act.put, List.setIfInBounds_toArray, List.set_cons_zero, List.set_cons_succ, i64_w, i32_w]
            rfl
          refine take_ (i := 23) (N := some 122) (v := ?_) (a' := ?_) #[true, true, true, true, true, true, true, true, true, true, true, true, true, true, true, true, true, true, true, true, true, true, false, true, false, true, false, true, false, false, false, false, true, false, true, false, false, false, false] rfl rfl (take_ofW HT_.out HW_.out (by kernel_rfl)) (fun _ _ _ h => h) (Or.inl ⟨by rfl, ?_⟩) hHeld ?_ ?_
          rotate_left
          · rintro w' ⟨s0, s1, s2, s3, s4, s5, s6, s7, s8, s9, s10, s11, s12, s13, s14, s15⟩
            go_simp
            with_reducible rfl
          rotate_left
          · simp only [Act.put, List.setIfInBounds_toArray, List.set_cons_zero, List.set_cons_succ, i64_w, i32_w]
            rfl
          refine take_ (i := 26) (N := some 125) (v := ?_) (a' := ?_) #[true, true, true, true, true, true, true, true, true, true, true, true, true, true, true, true, true, true, true, true, true, true, false, true, false, true, true, true, false, false, false, false, true, false, true, false, false, false, false] rfl rfl (take_ofW HT_.out HW_.out (by kernel_rfl)) (fun _ _ _ h => h) (Or.inl ⟨by rfl, ?_⟩) hHeld ?_ ?_
          rotate_left
          · rintro w' ⟨s0, s1, s2, s3, s4, s5, s6, s7, s8, s9, s10, s11, s12, s13, s14, s15⟩
            go_simp
            with_reducible rfl
          rotate_left
          · simp only [Act.put, List.setIfInBounds_toArray, List.set_cons_zero, List.set_cons_succ, i64_w, i32_w]
            rfl
          refine take_ (i := 28) (N := some 127) (v := ?_) (a' := ?_) #[true, true, true, true, true, true, true, true, true, true, true, true, true, true, true, true, true, true, true, true, true, true, false, true, false, true, true, true, true, false, false, false, true, false, true, false, false, false, false] rfl rfl (take_ofW HT_.out HW_.out (by kernel_rfl)) (fun _ _ _ h => h) (Or.inl ⟨by rfl, ?_⟩) hHeld ?_ ?_
          rotate_left
          · rintro w' ⟨s0, s1, s2, s3, s4, s5, s6, s7, s8, s9, s10, s11, s12, s13, s14, s15⟩
            go_simp
            with_reducible rfl
          rotate_left
          · simp only [Act.put, List.setIfInBounds_toArray, List.set_cons_zero, List.set_cons_succ, i64_w, i32_w]
            rfl
          refine take_ (i := 30) (N := some 129) (v := ?_) (a' := ?_) #[true, true, true, true, true, true, true, true, true, true, true, true, true, true, true, true, true, true, true, true, true, true, false, true, false, true, true, true, true, false, true, false, true, false, true, false, false, false, false] rfl rfl (take_ofW HT_.out HW_.out (by kernel_rfl)) (fun _ _ _ h => h) (Or.inl ⟨by rfl, ?_⟩) hHeld ?_ ?_
          rotate_left
          · rintro w' ⟨s0, s1, s2, s3, s4, s5, s6, s7, s8, s9, s10, s11, s12, s13, s14, s15⟩
            go_simp
            with_reducible rfl
          rotate_left
          · simp only [Act.put, List.setIfInBounds_toArray, List.set_cons_zero, List.set_cons_succ, i64_w, i32_w]
            rfl
          refine take_ (i := 31) (N := some 130) (v := ?_) (a' := ?_) #[true, true, true, true, true, true, true, true, true, true, true, true, true, true, true, true, true, true, true, true, true, true, false, true, false, true, true, true, true, false, true, true, true, false, true, false, false, false, false] rfl rfl (take_ofW HT_.out HW_.out (by kernel_rfl)) (fun _ _ _ h => h) (Or.inl ⟨by rfl, ?_⟩) hHeld ?_ ?_
          rotate_left
          · rintro w' ⟨s0, s1, s2, s3, s4, s5, s6, s7, s8, s9, s10, s11, s12, s13, s14, s15⟩
            go_simp
            with_reducible rfl
          rotate_left
          · simp only [Act.put, List.setIfInBounds_toArray, List.set_cons_zero, List.set_cons_succ, i64_w, i32_w]
            rfl
          refine take_ (i := 33) (N := some 132) (v := ?_) (a' := ?_) #[true, true, true, true, true, true, true, true, true, true, true, true, true, true, true, true, true, true, true, true, true, true, false, true, false, true, true, true, true, false, true, true, true, true, true, false, false, false, false] rfl rfl (take_ofW HT_.out HW_.out (by kernel_rfl)) (fun _ _ _ h => h) (Or.inl ⟨by rfl, ?_⟩) hHeld ?_ ?_
          rotate_left
          · rintro w' ⟨s0, s1, s2, s3, s4, s5, s6, s7, s8, s9, s10, s11, s12, s13, s14, s15⟩
            go_simp
            with_reducible rfl
          rotate_left
          · simp only [Act.put, List.setIfInBounds_toArray, List.set_cons_zero, List.set_cons_succ, i64_w, i32_w]
            rfl
          refine take_ (i := 35) (N := some 134) (v := ?_) (a' := ?_) #[true, true, true, true, true, true, true, true, true, true, true, true, true, true, true, true, true, true, true, true, true, true, false, true, false, true, true, true, true, false, true, true, true, true, true, true, false, false, false] rfl rfl (take_ofW HT_.out HW_.out (by kernel_rfl)) (fun _ _ _ h => h) (Or.inl ⟨by rfl, ?_⟩) hHeld ?_ ?_
          rotate_left
          · rintro w' ⟨s0, s1, s2, s3, s4, s5, s6, s7, s8, s9, s10, s11, s12, s13, s14, s15⟩
            go_simp
            with_reducible rfl
          rotate_left
          · simp only [Act.put, List.setIfInBounds_toArray, List.set_cons_zero, List.set_cons_succ, i64_w, i32_w]
            rfl
          refine one_ (i := 22) (N := some 121) #[true, true, true, true, true, true, true, true, true, true, true, true, true, true, true, true, true, true, true, true, true, true, true, true, false, true, true, true, true, false, true, true, true, true, true, true, false, false, false] rfl rfl (one_of HT_.out (by kernel_rfl)) (by decide) (fun K hK => ?_)
          refine goes_ Try.func13 (by kernel_rfl) rfl #[.agg #[.int .i64 t372, .int .i64 t373, .slice Ao21 t374.length co21]] (by rfl) rfl rfl (by (try simp only [List.map_toArray, List.map_cons, List.map_nil]); first | done | rfl | (simp only [List.length_drop, List.length_take]; rfl)) ?_
          with_reducible refine (chequerlaw03_of.calls t372 t373 (fun k_ => (some k_ ≠ (.slice (some ad393) y389.length co55 : Value).ownBlock ∧ (some k_ ≠ (.slice Ao81 t411.length co81 : Value).ownBlock ∧ (some k_ ≠ (.slice Ao96 t418.length co96 : Value).ownBlock ∧ (k_ ≠ gb371 ∧ (k_ ≠ gb377 ∧ (k_ ≠ gb383 ∧ (k_ ≠ gb388 ∧ (k_ ≠ gb394 ∧ (k_ ≠ gb415 ∧ k_ ≠ gb422)))))))))) _ _ t374 t429 t430 t431 _ ?side1 A107.out).mono ?_
          (case side1 => exact HO_378002.out)
          rintro e w116 ⟨v432, rfl, ho0, hb⟩
          refine ⟨_, rfl, ?_⟩
          replace HO_378002 := Aside0.mk (Kd.V_below (vp_ HO_378002.out) hb)
          replace HO_384002 := Aside0.mk (Kd.V_below (vp_ HO_384002.out) hb)
          replace HO399 := Aside0.mk (Kd.V_below (vp_ HO399.out) hb)
          replace HO408 := Aside0.mk (Kd.V_below (vp_ HO408.out) hb)
          replace HO427 := Aside0.mk (Kd.V_below (vp_ HO427.out) hb)
          have HO433 := Aside0.mk (Kd.V_lower (Kd.V_mono (ok' := fun k_ => some k_ ≠ (.slice (some ad393) y389.length co55 : Value).ownBlock ∧ some k_ ≠ (.slice Ao81 t411.length co81 : Value).ownBlock ∧ some k_ ≠ (.slice Ao96 t418.length co96 : Value).ownBlock ∧ k_ ≠ gb371 ∧ k_ ≠ gb377 ∧ k_ ≠ gb383 ∧ k_ ≠ gb388 ∧ k_ ≠ gb394 ∧ k_ ≠ gb415 ∧ k_ ≠ gb422) ho0 (fun k_ hk_ => ⟨Or.elim hk_ (fun hs_ => hs_.1) (fun hn_ => (Kd.fresh' (Kd.R_lt (rp_ HO_10.out)) k_ hn_)), Or.elim hk_ (fun hs_ => hs_.2.1) (fun hn_ => (Kd.fresh' (Kd.R_lt (rp_ HO413.out)) k_ hn_)), Or.elim hk_ (fun hs_ => hs_.2.2.1) (fun hn_ => (Kd.fresh' (Kd.R_lt (rp_ HO420.out)) k_ hn_)), Or.elim hk_ (fun hs_ => hs_.2.2.2.1) (fun hn_ => (Kd.freshB (g := gb371) (o := .cells #[.int .i64 a2_0, .int .i64 a2_1, .int .i64 a2_2, .int .i64 a2_3] 25 (0, 0)) (hp_ BK371.out) k_ hn_)), Or.elim hk_ (fun hs_ => hs_.2.2.2.2.1) (fun hn_ => (Kd.freshB (g := gb377) (o := .cells #[.int .i64 t372, .int .i64 t373, .slice Ao21 t374.length co21] 24 (0, 0)) (hp_ BK377.out) k_ hn_)), Or.elim hk_ (fun hs_ => hs_.2.2.2.2.2.1) (fun hn_ => (Kd.freshB (g := gb383) (o := .cells #[.int .i64 t378, .int .i64 t379, .slice Ao29 t380.length co29] 24 (0, 0)) (hp_ BK383.out) k_ hn_)), Or.elim hk_ (fun hs_ => hs_.2.2.2.2.2.2.1) (fun hn_ => (Kd.freshB (g := gb388) (o := .cells #[.int .i64 (wrap64 (t384 - 1)), .int .i64 (wrap64 (t385 - 1)), .int .i64 (wrap64 (t386 - 1)), .int .i64 (wrap64 (t387 - 1))] 25 (0, 0)) (hp_ BK388.out) k_ hn_)), Or.elim hk_ (fun hs_ => hs_.2.2.2.2.2.2.2.1) (fun hn_ => (Kd.freshB (g := gb394) (o := .cells #[.int .i64 ((rd_T25 y389 x11_1).f0), .int .i64 ((rd_T25 y389 x11_1).f1), .int .i64 ((rd_T25 y389 x11_1).f2), .int .i64 ((rd_T25 y389 x11_1).f3)] 25 (0, 0)) (hp_ BK394.out) k_ hn_)), Or.elim hk_ (fun hs_ => hs_.2.2.2.2.2.2.2.2.1) (fun hn_ => (Kd.freshB (g := gb415) (o := .cells #[.int .i64 t409, .int .i64 t410, .slice Ao81 t411.length co81] 32 (0, 0)) (hp_ BK415.out) k_ hn_)), Or.elim hk_ (fun hs_ => hs_.2.2.2.2.2.2.2.2.2) (fun hn_ => (Kd.freshB (g := gb422) (o := .cells #[.int .i64 t416, .int .i64 t417, .slice Ao96 t418.length co96] 24 (0, 0)) (hp_ BK422.out) k_ hn_))⟩)) (below_size bp_))
          replace HO_10 := Aside0.mk (Kd.R_below (rp_ HO_10.out) hb)
          replace HO413 := Aside0.mk (Kd.R_below (rp_ HO413.out) hb)
          replace HO420 := Aside0.mk (Kd.R_below (rp_ HO420.out) hb)
          replace BK371 := Aside0.mk (blk_below (hp_ BK371.out) hb)
          replace BK377 := Aside0.mk (blk_below (hp_ BK377.out) hb)
          replace BK383 := Aside0.mk (blk_below (hp_ BK383.out) hb)
          replace BK388 := Aside0.mk (blk_below (hp_ BK388.out) hb)
          replace BK394 := Aside0.mk (blk_below (hp_ BK394.out) hb)
          replace BK415 := Aside0.mk (blk_below (hp_ BK415.out) hb)
          replace BK422 := Aside0.mk (blk_below (hp_ BK422.out) hb)
          replace HB := Aside0.mk (below_step bp_ hb)
          (try clear hb)
          (try clear hb2)
          (try clear hk)
          (try clear hi)
          (try clear ho0)
          refine hK.out _ _ ⟨(blk_cell BK377.out 0).trans rfl, (blk_cell BK377.out 1).trans rfl, (blk_cell BK377.out 2).trans rfl, (blk_cell BK383.out 0).trans rfl, (blk_cell BK383.out 1).trans rfl, (blk_cell BK383.out 2).trans rfl, (blk_cell BK394.out 0).trans rfl, (blk_cell BK394.out 1).trans rfl, (blk_cell BK394.out 2).trans rfl, (blk_cell BK394.out 3).trans rfl, (blk_cell BK415.out 0).trans rfl, (blk_cell BK415.out 1).trans rfl, (blk_cell BK415.out 2).trans rfl, (blk_cell BK422.out 0).trans rfl, (blk_cell BK422.out 1).trans rfl, (blk_cell BK422.out 2).trans rfl⟩ (fun hHeld => ?_)
          clear hK K
          refine norm_ (a' := ?_) ?_ ?_
          rotate_left
          · show Act.put _ (some 121) _ = _
            simp only [Act.put, List.setIfInBounds_toArray, List.set_cons_zero, List.set_cons_succ, i64_w, i32_w]
            rfl
          refine one_ (i := 24) (N := some 123) #[true, true, true, true, true, true, true, true, true, true, true, true, true, true, true, true, true, true, true, true, true, true, true, true, true, true, true, true, true, false, true, true, true, true, true, true, false, false, false] rfl rfl (one_of HT_.out (by kernel_rfl)) (by decide) (fun K hK => ?_)
          refine goes_ Try.func13 (by kernel_rfl) rfl #[.agg #[.int .i64 t378, .int .i64 t379, .slice Ao29 t380.length co29]] (by rfl) rfl rfl (by (try simp only [List.map_toArray, List.map_cons, List.map_nil]); first | done | rfl | (simp only [List.length_drop, List.length_take]; rfl)) ?_
          with_reducible refine (chequerlaw03_of.calls t378 t379 (fun k_ => (some k_ ≠ (.slice (some ad393) y389.length co55 : Value).ownBlock ∧ (some k_ ≠ (.slice Ao81 t411.length co81 : Value).ownBlock ∧ (some k_ ≠ (.slice Ao96 t418.length co96 : Value).ownBlock ∧ (k_ ≠ gb371 ∧ (k_ ≠ gb377 ∧ (k_ ≠ gb383 ∧ (k_ ≠ gb388 ∧ (k_ ≠ gb394 ∧ (k_ ≠ gb415 ∧ k_ ≠ gb422)))))))))) _ _ t380 t434 t435 t436 _ ?side1 A108.out).mono ?_
          (case side1 => exact HO_384002.out)
          rintro e w117 ⟨v437, rfl, ho0, hb⟩
          refine ⟨_, rfl, ?_⟩
          replace HO_378002 := Aside0.mk (Kd.V_below (vp_ HO_378002.out) hb)
          replace HO_384002 := Aside0.mk (Kd.V_below (vp_ HO_384002.out) hb)
          replace HO399 := Aside0.mk (Kd.V_below (vp_ HO399.out) hb)
          replace HO408 := Aside0.mk (Kd.V_below (vp_ HO408.out) hb)
          replace HO427 := Aside0.mk (Kd.V_below (vp_ HO427.out) hb)
          replace HO433 := Aside0.mk (Kd.V_below (vp_ HO433.out) hb)
          have HO438 := Aside0.mk (Kd.V_lower (Kd.V_mono (ok' := fun k_ => some k_ ≠ (.slice (some ad393) y389.length co55 : Value).ownBlock ∧ some k_ ≠ (.slice Ao81 t411.length co81 : Value).ownBlock ∧ some k_ ≠ (.slice Ao96 t418.length co96 : Value).ownBlock ∧ k_ ≠ gb371 ∧ k_ ≠ gb377 ∧ k_ ≠ gb383 ∧ k_ ≠ gb388 ∧ k_ ≠ gb394 ∧ k_ ≠ gb415 ∧ k_ ≠ gb422) ho0 (fun k_ hk_ => ⟨Or.elim hk_ (fun hs_ => hs_.1) (fun hn_ => (Kd.fresh' (Kd.R_lt (rp_ HO_10.out)) k_ hn_)), Or.elim hk_ (fun hs_ => hs_.2.1) (fun hn_ => (Kd.fresh' (Kd.R_lt (rp_ HO413.out)) k_ hn_)), Or.elim hk_ (fun hs_ => hs_.2.2.1) (fun hn_ => (Kd.fresh' (Kd.R_lt (rp_ HO420.out)) k_ hn_)), Or.elim hk_ (fun hs_ => hs_.2.2.2.1) (fun hn_ => (Kd.freshB (g := gb371) (o := .cells #[.int .i64 a2_0, .int .i64 a2_1, .int .i64 a2_2, .int .i64 a2_3] 25 (0, 0)) (hp_ BK371.out) k_ hn_)), Or.elim hk_ (fun hs_ => hs_.2.2.2.2.1) (fun hn_ => (Kd.freshB (g := gb377) (o := .cells #[.int .i64 t372, .int .i64 t373, .slice Ao21 t374.length co21] 24 (0, 0)) (hp_ BK377.out) k_ hn_)), Or.elim hk_ (fun hs_ => hs_.2.2.2.2.2.1) (fun hn_ => (Kd.freshB (g := gb383) (o := .cells #[.int .i64 t378, .int .i64 t379, .slice Ao29 t380.length co29] 24 (0, 0)) (hp_ BK383.out) k_ hn_)), Or.elim hk_ (fun hs_ => hs_.2.2.2.2.2.2.1) (fun hn_ => (Kd.freshB (g := gb388) (o := .cells #[.int .i64 (wrap64 (t384 - 1)), .int .i64 (wrap64 (t385 - 1)), .int .i64 (wrap64 (t386 - 1)), .int .i64 (wrap64 (t387 - 1))] 25 (0, 0)) (hp_ BK388.out) k_ hn_)), Or.elim hk_ (fun hs_ => hs_.2.2.2.2.2.2.2.1) (fun hn_ => (Kd.freshB (g := gb394) (o := .cells #[.int .i64 ((rd_T25 y389 x11_1).f0), .int .i64 ((rd_T25 y389 x11_1).f1), .int .i64 ((rd_T25 y389 x11_1).f2), .int .i64 ((rd_T25 y389 x11_1).f3)] 25 (0, 0)) (hp_ BK394.out) k_ hn_)), Or.elim hk_ (fun hs_ => hs_.2.2.2.2.2.2.2.2.1) (fun hn_ => (Kd.freshB (g := gb415) (o := .cells #[.int .i64 t409, .int .i64 t410, .slice Ao81 t411.length co81] 32 (0, 0)) (hp_ BK415.out) k_ hn_)), Or.elim hk_ (fun hs_ => hs_.2.2.2.2.2.2.2.2.2) (fun hn_ => (Kd.freshB (g := gb422) (o := .cells #[.int .i64 t416, .int .i64 t417, .slice Ao96 t418.length co96] 24 (0, 0)) (hp_ BK422.out) k_ hn_))⟩)) (below_size bp_))
          replace HO_10 := Aside0.mk (Kd.R_below (rp_ HO_10.out) hb)
          replace HO413 := Aside0.mk (Kd.R_below (rp_ HO413.out) hb)
          replace HO420 := Aside0.mk (Kd.R_below (rp_ HO420.out) hb)
          replace BK371 := Aside0.mk (blk_below (hp_ BK371.out) hb)
          replace BK377 := Aside0.mk (blk_below (hp_ BK377.out) hb)
          replace BK383 := Aside0.mk (blk_below (hp_ BK383.out) hb)
          replace BK388 := Aside0.mk (blk_below (hp_ BK388.out) hb)
          replace BK394 := Aside0.mk (blk_below (hp_ BK394.out) hb)
          replace BK415 := Aside0.mk (blk_below (hp_ BK415.out) hb)
          replace BK422 := Aside0.mk (blk_below (hp_ BK422.out) hb)
          replace HB := Aside0.mk (below_step bp_ hb)
          (try clear hb)
          (try clear hb2)
          (try clear hk)
          (try clear hi)
          (try clear ho0)
          obtain ⟨Ao118, co118, eo118⟩ := Kd.V_slice HO433.out
          (first | subst eo118 | (injection eo118 with f1_ f2_ f3_; have f4_ := f1_.symm; have f5_ := f3_.symm; clear f1_ f2_ f3_; subst f4_; subst f5_))
          obtain ⟨Ao119, co119, eo119⟩ := Kd.V_slice HO438.out
          (first | subst eo119 | (injection eo119 with f1_ f2_ f3_; have f4_ := f1_.symm; have f5_ := f3_.symm; clear f1_ f2_ f3_; subst f4_; subst f5_))
          refine hK.out _ _ ⟨(blk_cell BK377.out 0).trans rfl, (blk_cell BK377.out 1).trans rfl, (blk_cell BK377.out 2).trans rfl, (blk_cell BK383.out 0).trans rfl, (blk_cell BK383.out 1).trans rfl, (blk_cell BK383.out 2).trans rfl, (blk_cell BK394.out 0).trans rfl, (blk_cell BK394.out 1).trans rfl, (blk_cell BK394.out 2).trans rfl, (blk_cell BK394.out 3).trans rfl, (blk_cell BK415.out 0).trans rfl, (blk_cell BK415.out 1).trans rfl, (blk_cell BK415.out 2).trans rfl, (blk_cell BK422.out 0).trans rfl, (blk_cell BK422.out 1).trans rfl, (blk_cell BK422.out 2).trans rfl⟩ (fun hHeld => ?_)
          clear hK K
          refine norm_ (a' := ?_) ?_ ?_
          rotate_left
          · show Act.put _ (some 123) _ = _
            simp only [Act.put, List.setIfInBounds_toArray, List.set_cons_zero, List.set_cons_succ, i64_w, i32_w]
            rfl
          refine one_ (i := 29) (N := some 128) Fl119 rfl rfl (one_of HT_.out (by kernel_rfl)) (by decide) (fun K hK => ?_)
          refine goes_ Try.func23 (by kernel_rfl) rfl #[.agg #[.int .i64 t429, .int .i64 t430, .slice Ao118 t431.length co118], .agg #[.int .i64 t434, .int .i64 t435, .slice Ao119 t436.length co119], .int .i64 ((rd_T25 y389 x11_1).f0), .int .i64 ((rd_T25 y389 x11_1).f1)] (by rfl) rfl rfl (by (try simp only [List.map_toArray, List.map_cons, List.map_nil]); first | done | rfl | (simp only [List.length_drop, List.length_take]; rfl)) ?_
          with_reducible refine (rect_Matrix_Has.calls k1 t429 t430 _ _ t431 t434 t435 _ _ t436 ((rd_T25 y389 x11_1).f0) ((rd_T25 y389 x11_1).f1) t439 _ ?side1 ?side2 ?side3 ?side4 A109.out).mono ?_
          (case side1 => exact cp_ (Kd.V_reads' HO433.out).2.2)
          (case side2 => exact (Kd.V_reads' HO433.out).2.1)
          (case side3 => exact cp_ (Kd.V_reads' HO438.out).2.2)
          (case side4 => exact (Kd.V_reads' HO438.out).2.1)
          rintro e w120 ⟨rfl, hb⟩
          refine ⟨_, rfl, ?_⟩
          replace HO_10 := Aside0.mk (Kd.R_below (rp_ HO_10.out) hb)
          replace HO_378002 := Aside0.mk (Kd.V_below (vp_ HO_378002.out) hb)
          replace HO_384002 := Aside0.mk (Kd.V_below (vp_ HO_384002.out) hb)
          replace HO399 := Aside0.mk (Kd.V_below (vp_ HO399.out) hb)
          replace HO408 := Aside0.mk (Kd.V_below (vp_ HO408.out) hb)
          replace HO413 := Aside0.mk (Kd.R_below (rp_ HO413.out) hb)
          replace HO420 := Aside0.mk (Kd.R_below (rp_ HO420.out) hb)
          replace HO427 := Aside0.mk (Kd.V_below (vp_ HO427.out) hb)
          replace HO433 := Aside0.mk (Kd.V_below (vp_ HO433.out) hb)
          replace HO438 := Aside0.mk (Kd.V_below (vp_ HO438.out) hb)
          replace BK371 := Aside0.mk (blk_below (hp_ BK371.out) hb)
          replace BK377 := Aside0.mk (blk_below (hp_ BK377.out) hb)
          replace BK383 := Aside0.mk (blk_below (hp_ BK383.out) hb)
          replace BK388 := Aside0.mk (blk_below (hp_ BK388.out) hb)
          replace BK394 := Aside0.mk (blk_below (hp_ BK394.out) hb)
          replace BK415 := Aside0.mk (blk_below (hp_ BK415.out) hb)
          replace BK422 := Aside0.mk (blk_below (hp_ BK422.out) hb)
          replace HB := Aside0.mk (below_step bp_ hb)
          (try clear hb)
          (try clear hb2)
          (try clear hk)
          (try clear hi)
          refine hK.out _ _ ⟨(blk_cell BK377.out 0).trans rfl, (blk_cell BK377.out 1).trans rfl, (blk_cell BK377.out 2).trans rfl, (blk_cell BK383.out 0).trans rfl, (blk_cell BK383.out 1).trans rfl, (blk_cell BK383.out 2).trans rfl, (blk_cell BK394.out 0).trans rfl, (blk_cell BK394.out 1).trans rfl, (blk_cell BK394.out 2).trans rfl, (blk_cell BK394.out 3).trans rfl, (blk_cell BK415.out 0).trans rfl, (blk_cell BK415.out 1).trans rfl, (blk_cell BK415.out 2).trans rfl, (blk_cell BK422.out 0).trans rfl, (blk_cell BK422.out 1).trans rfl, (blk_cell BK422.out 2).trans rfl⟩ (fun hHeld => ?_)
          clear hK K
          refine norm_ (a' := ?_) ?_ ?_
          rotate_left
          · show Act.put _ (some 128) _ = _
            simp only [Act.put, List.setIfInBounds_toArray, List.set_cons_zero, List.set_cons_succ, i64_w, i32_w]
            rfl
          refine one_ (i := 36) (N := some 135) Fl120 rfl rfl (one_of HT_.out (by kernel_rfl)) (by decide) (fun K hK => ?_)
          refine goes_ Try.func28 (by kernel_rfl) rfl #[.agg #[.int .i64 t372, .int .i64 t373, .slice Ao21 t374.length co21], .agg #[.int .i64 t378, .int .i64 t379, .slice Ao29 t380.length co29], .int .i64 ((rd_T25 y389 x11_1).f0), .int .i64 ((rd_T25 y389 x11_1).f1)] (by rfl) rfl rfl (by (try simp only [List.map_toArray, List.map_cons, List.map_nil]); first | done | rfl | (simp only [List.length_drop, List.length_take]; rfl)) ?_
          with_reducible refine (chequerref03_Has.calls k1 t372 t373 _ _ t374 t378 t379 _ _ t380 ((rd_T25 y389 x11_1).f0) ((rd_T25 y389 x11_1).f1) t440 _ ?side1 ?side2 ?side3 ?side4 A110.out).mono ?_
          (case side1 => exact cp_ (Kd.V_reads' HO_378002.out).2.2)
          (case side2 => exact (Kd.V_reads' HO_378002.out).2.1)
          (case side3 => exact cp_ (Kd.V_reads' HO_384002.out).2.2)
          (case side4 => exact (Kd.V_reads' HO_384002.out).2.1)
          rintro e w121 ⟨rfl, hb⟩
          refine ⟨_, rfl, ?_⟩
          replace HO_10 := Aside0.mk (Kd.R_below (rp_ HO_10.out) hb)
          replace HO_378002 := Aside0.mk (Kd.V_below (vp_ HO_378002.out) hb)
          replace HO_384002 := Aside0.mk (Kd.V_below (vp_ HO_384002.out) hb)
          replace HO399 := Aside0.mk (Kd.V_below (vp_ HO399.out) hb)
          replace HO408 := Aside0.mk (Kd.V_below (vp_ HO408.out) hb)
          replace HO413 := Aside0.mk (Kd.R_below (rp_ HO413.out) hb)
          replace HO420 := Aside0.mk (Kd.R_below (rp_ HO420.out) hb)
          replace HO427 := Aside0.mk (Kd.V_below (vp_ HO427.out) hb)
          replace HO433 := Aside0.mk (Kd.V_below (vp_ HO433.out) hb)
          replace HO438 := Aside0.mk (Kd.V_below (vp_ HO438.out) hb)
          replace BK371 := Aside0.mk (blk_below (hp_ BK371.out) hb)
          replace BK377 := Aside0.mk (blk_below (hp_ BK377.out) hb)
          replace BK383 := Aside0.mk (blk_below (hp_ BK383.out) hb)
          replace BK388 := Aside0.mk (blk_below (hp_ BK388.out) hb)
          replace BK394 := Aside0.mk (blk_below (hp_ BK394.out) hb)
          replace BK415 := Aside0.mk (blk_below (hp_ BK415.out) hb)
          replace BK422 := Aside0.mk (blk_below (hp_ BK422.out) hb)
          replace HB := Aside0.mk (below_step bp_ hb)
          (try clear hb)
          (try clear hb2)
          (try clear hk)
          (try clear hi)
          refine hK.out _ _ ⟨(blk_cell BK377.out 0).trans rfl, (blk_cell BK377.out 1).trans rfl, (blk_cell BK377.out 2).trans rfl, (blk_cell BK383.out 0).trans rfl, (blk_cell BK383.out 1).trans rfl, (blk_cell BK383.out 2).trans rfl, (blk_cell BK394.out 0).trans rfl, (blk_cell BK394.out 1).trans rfl, (blk_cell BK394.out 2).trans rfl, (blk_cell BK394.out 3).trans rfl, (blk_cell BK415.out 0).trans rfl, (blk_cell BK415.out 1).trans rfl, (blk_cell BK415.out 2).trans rfl, (blk_cell BK422.out 0).trans rfl, (blk_cell BK422.out 1).trans rfl, (blk_cell BK422.out 2).trans rfl⟩ (fun hHeld => ?_)
          clear hK K
          refine norm_ (a' := ?_) ?_ ?_
          rotate_left
          · show Act.put _ (some 135) _ = _
            simp only [Act.put, List.setIfInBounds_toArray, List.set_cons_zero, List.set_cons_succ, i64_w, i32_w]
            rfl
          refine pur_ (i := 37) (N := some 136) Fl121 (any_of HT_.out (by kernel_rfl)) ?_
          refine pur_ (i := 38) (N := some 137) Fl122 (any_of HT_.out (by kernel_rfl)) ?_
          refine done_ (done_of HT_.out (by kernel_rfl)) ?_
          try go_wp2
          go_meet
          case rel => exact ⟨_, ((t439 != t440)), (by first | rfl | (simp; done) | (simp [*]; done)), H', ⟨by have := HK1.out; first | omega | exact Nat.le_refl _⟩, ⟨rp_ HO_10.out⟩, ⟨vp_ HO_378002.out⟩, ⟨vp_ HO_384002.out⟩, ⟨rp_ HO413.out⟩, ⟨rp_ HO420.out⟩, ⟨hp_ BK371.out⟩, ⟨hp_ BK377.out⟩, ⟨hp_ BK383.out⟩, ⟨hp_ BK388.out⟩, ⟨hp_ BK394.out⟩, ⟨hp_ BK415.out⟩, ⟨hp_ BK422.out⟩, ⟨bp_⟩⟩
        · replace c106 := Bool.eq_false_iff.mpr c106
          subst c106
          have H1 : (chequerlaw03_RectParts.j1 k1 y389 x11_1 t421 true t372 t373 t374 t378 t379 t380 ((rd_T25 y389 x11_1).f0) ((rd_T25 y389 x11_1).f1) ((rd_T25 y389 x11_1).f2) ((rd_T25 y389 x11_1).f3) t416 t417 t418) = some r := by rw [if_neg (show ¬ (false = true) by decide)] at H; exact H
          clear H
          have H := H1
          clear H1
          have H' := Aside0.mk H
          clear H
          try go_wp2
          have n0_ : Aside0 (Kd.R k25 25 (((w88.setCell ⟨gb422, 0, none⟩ (.int .i64 t416)).setCell ⟨gb422, 1, none⟩ (.int .i64 t417)).setCell ⟨gb422, 2, none⟩ (.slice Ao96 t418.length co96)) w.heap.size (fun k_ => k_ ≠ gb371 ∧ k_ ≠ gb388 ∧ k_ ≠ gb394) (.slice (some ad393) y389.length co55) y389) := ⟨rf_ HO_10.out BK422.out (by decide) (fun _ hk => ⟨hk.1.1, ⟨hk.1.2.1, hk.1.2.2⟩⟩)⟩
          have n1_ : Aside0 (Kd.V (Kd.int .u64) 46 (((w88.setCell ⟨gb422, 0, none⟩ (.int .i64 t416)).setCell ⟨gb422, 1, none⟩ (.int .i64 t417)).setCell ⟨gb422, 2, none⟩ (.slice Ao96 t418.length co96)) w.heap.size (fun k_ => some k_ ≠ (.slice (some ad393) y389.length co55 : Value).ownBlock ∧ some k_ ≠ (.slice Ao81 t411.length co81 : Value).ownBlock ∧ some k_ ≠ (.slice Ao96 t418.length co96 : Value).ownBlock ∧ k_ ≠ gb371 ∧ k_ ≠ gb377 ∧ k_ ≠ gb383 ∧ k_ ≠ gb388 ∧ k_ ≠ gb394 ∧ k_ ≠ gb415 ∧ k_ ≠ gb422) (.slice Ao21 t374.length co21) t374) := ⟨by (with_reducible repeat (first | apply Kd.V_alloc | apply Kd.V_drewN | apply Kd.V_drew)); exact Kd.V_mono (Kd.V_far (p := ⟨gb422, 2, none⟩) (Kd.V_far (p := ⟨gb422, 1, none⟩) (Kd.V_far (p := ⟨gb422, 0, none⟩) (Kd.V_mono HO_378002.out (fun k_ hk => (⟨hk, hk.2⟩ : _ ∧ k_ ≠ gb422))) (fun _ hk => hk.2) (.int .i64 t416)) (fun _ hk => hk.2) (.int .i64 t417)) (fun _ hk => hk.2) (.slice Ao96 t418.length co96)) (fun _ hk => ⟨hk.1.1.1.2.1, ⟨hk.1.1.1.1, ⟨hk.1.1.2, ⟨hk.1.1.1.2.2.1, ⟨hk.1.1.1.2.2.2.1, ⟨hk.1.1.1.2.2.2.2.1, ⟨hk.1.1.1.2.2.2.2.2.1, ⟨hk.1.1.1.2.2.2.2.2.2.1, ⟨hk.1.1.1.2.2.2.2.2.2.2, hk.1.2⟩⟩⟩⟩⟩⟩⟩⟩⟩)⟩
          have n2_ : Aside0 (Kd.V (Kd.int .u64) 46 (((w88.setCell ⟨gb422, 0, none⟩ (.int .i64 t416)).setCell ⟨gb422, 1, none⟩ (.int .i64 t417)).setCell ⟨gb422, 2, none⟩ (.slice Ao96 t418.length co96)) w.heap.size (fun k_ => some k_ ≠ (.slice (some ad393) y389.length co55 : Value).ownBlock ∧ some k_ ≠ (.slice Ao81 t411.length co81 : Value).ownBlock ∧ some k_ ≠ (.slice Ao96 t418.length co96 : Value).ownBlock ∧ k_ ≠ gb371 ∧ k_ ≠ gb377 ∧ k_ ≠ gb383 ∧ k_ ≠ gb388 ∧ k_ ≠ gb394 ∧ k_ ≠ gb415 ∧ k_ ≠ gb422) (.slice Ao29 t380.length co29) t380) := ⟨by (with_reducible repeat (first | apply Kd.V_alloc | apply Kd.V_drewN | apply Kd.V_drew)); exact Kd.V_mono (Kd.V_far (p := ⟨gb422, 2, none⟩) (Kd.V_far (p := ⟨gb422, 1, none⟩) (Kd.V_far (p := ⟨gb422, 0, none⟩) (Kd.V_mono HO_384002.out (fun k_ hk => (⟨hk, hk.2⟩ : _ ∧ k_ ≠ gb422))) (fun _ hk => hk.2) (.int .i64 t416)) (fun _ hk => hk.2) (.int .i64 t417)) (fun _ hk => hk.2) (.slice Ao96 t418.length co96)) (fun _ hk => ⟨hk.1.1.1.2.1, ⟨hk.1.1.1.1, ⟨hk.1.1.2, ⟨hk.1.1.1.2.2.1, ⟨hk.1.1.1.2.2.2.1, ⟨hk.1.1.1.2.2.2.2.1, ⟨hk.1.1.1.2.2.2.2.2.1, ⟨hk.1.1.1.2.2.2.2.2.2.1, ⟨hk.1.1.1.2.2.2.2.2.2.2, hk.1.2⟩⟩⟩⟩⟩⟩⟩⟩⟩)⟩
          have n3_ : Aside0 (Kd.V (Kd.int .u64) 46 (((w88.setCell ⟨gb422, 0, none⟩ (.int .i64 t416)).setCell ⟨gb422, 1, none⟩ (.int .i64 t417)).setCell ⟨gb422, 2, none⟩ (.slice Ao96 t418.length co96)) w.heap.size (fun k_ => some k_ ≠ (.slice (some ad393) y389.length co55 : Value).ownBlock ∧ some k_ ≠ (.slice Ao81 t411.length co81 : Value).ownBlock ∧ some k_ ≠ (.slice Ao96 t418.length co96 : Value).ownBlock ∧ k_ ≠ gb371 ∧ k_ ≠ gb377 ∧ k_ ≠ gb383 ∧ k_ ≠ gb388 ∧ k_ ≠ gb394 ∧ k_ ≠ gb415 ∧ k_ ≠ gb422) (.slice Ao65 t397.length co65) t397) := ⟨by (with_reducible repeat (first | apply Kd.V_alloc | apply Kd.V_drewN | apply Kd.V_drew)); exact Kd.V_mono (Kd.V_far (p := ⟨gb422, 2, none⟩) (Kd.V_far (p := ⟨gb422, 1, none⟩) (Kd.V_far (p := ⟨gb422, 0, none⟩) (Kd.V_mono HO399.out (fun k_ hk => (⟨hk, hk.2⟩ : _ ∧ k_ ≠ gb422))) (fun _ hk => hk.2) (.int .i64 t416)) (fun _ hk => hk.2) (.int .i64 t417)) (fun _ hk => hk.2) (.slice Ao96 t418.length co96)) (fun _ hk => ⟨hk.1.1.1.2.1, ⟨hk.1.1.1.1, ⟨hk.1.1.2, ⟨hk.1.1.1.2.2.1, ⟨hk.1.1.1.2.2.2.1, ⟨hk.1.1.1.2.2.2.2.1, ⟨hk.1.1.1.2.2.2.2.2.1, ⟨hk.1.1.1.2.2.2.2.2.2.1, ⟨hk.1.1.1.2.2.2.2.2.2.2, hk.1.2⟩⟩⟩⟩⟩⟩⟩⟩⟩)⟩
          have n4_ : Aside0 (Kd.V (Kd.int .u64) 46 (((w88.setCell ⟨gb422, 0, none⟩ (.int .i64 t416)).setCell ⟨gb422, 1, none⟩ (.int .i64 t417)).setCell ⟨gb422, 2, none⟩ (.slice Ao96 t418.length co96)) w.heap.size (fun k_ => some k_ ≠ (.slice (some ad393) y389.length co55 : Value).ownBlock ∧ some k_ ≠ (.slice Ao81 t411.length co81 : Value).ownBlock ∧ some k_ ≠ (.slice Ao96 t418.length co96 : Value).ownBlock ∧ k_ ≠ gb371 ∧ k_ ≠ gb377 ∧ k_ ≠ gb383 ∧ k_ ≠ gb388 ∧ k_ ≠ gb394 ∧ k_ ≠ gb415 ∧ k_ ≠ gb422) v407 t406) := ⟨by (with_reducible repeat (first | apply Kd.V_alloc | apply Kd.V_drewN | apply Kd.V_drew)); exact Kd.V_mono (Kd.V_far (p := ⟨gb422, 2, none⟩) (Kd.V_far (p := ⟨gb422, 1, none⟩) (Kd.V_far (p := ⟨gb422, 0, none⟩) (Kd.V_mono HO408.out (fun k_ hk => (⟨hk, hk.2⟩ : _ ∧ k_ ≠ gb422))) (fun _ hk => hk.2) (.int .i64 t416)) (fun _ hk => hk.2) (.int .i64 t417)) (fun _ hk => hk.2) (.slice Ao96 t418.length co96)) (fun _ hk => ⟨hk.1.1.1.2.1, ⟨hk.1.1.1.1, ⟨hk.1.1.2, ⟨hk.1.1.1.2.2.1, ⟨hk.1.1.1.2.2.2.1, ⟨hk.1.1.1.2.2.2.2.1, ⟨hk.1.1.1.2.2.2.2.2.1, ⟨hk.1.1.1.2.2.2.2.2.2.1, ⟨hk.1.1.1.2.2.2.2.2.2.2, hk.1.2⟩⟩⟩⟩⟩⟩⟩⟩⟩)⟩
          have n5_ : Aside0 (Kd.R (Kd.int .u64) 46 (((w88.setCell ⟨gb422, 0, none⟩ (.int .i64 t416)).setCell ⟨gb422, 1, none⟩ (.int .i64 t417)).setCell ⟨gb422, 2, none⟩ (.slice Ao96 t418.length co96)) w.heap.size (fun k_ => some k_ ≠ (.slice Ao96 t418.length co96 : Value).ownBlock) (.slice Ao81 t411.length co81) t411) := ⟨rf_ HO413.out BK422.out (by decide) (fun _ hk => hk.1.2)⟩
          have n6_ : Aside0 (Kd.R (Kd.int .u64) 46 (((w88.setCell ⟨gb422, 0, none⟩ (.int .i64 t416)).setCell ⟨gb422, 1, none⟩ (.int .i64 t417)).setCell ⟨gb422, 2, none⟩ (.slice Ao96 t418.length co96)) w.heap.size (fun k_ => some k_ ≠ (.slice Ao81 t411.length co81 : Value).ownBlock) (.slice Ao96 t418.length co96) t418) := ⟨rf_ HO420.out BK422.out (by decide) (fun _ hk => hk.1.2)⟩
          have n7_ : Aside0 ((((w88.setCell ⟨gb422, 0, none⟩ (.int .i64 t416)).setCell ⟨gb422, 1, none⟩ (.int .i64 t417)).setCell ⟨gb422, 2, none⟩ (.slice Ao96 t418.length co96)).heap[gb371]? = some (.cells #[.int .i64 a2_0, .int .i64 a2_1, .int .i64 a2_2, .int .i64 a2_3] 25 (0, 0))) := ⟨hf_ BK371.out NB371_422.out⟩
          have n8_ : Aside0 ((((w88.setCell ⟨gb422, 0, none⟩ (.int .i64 t416)).setCell ⟨gb422, 1, none⟩ (.int .i64 t417)).setCell ⟨gb422, 2, none⟩ (.slice Ao96 t418.length co96)).heap[gb377]? = some (.cells #[.int .i64 t372, .int .i64 t373, .slice Ao21 t374.length co21] 24 (0, 0))) := ⟨hf_ BK377.out NB377_422.out⟩
          have n9_ : Aside0 ((((w88.setCell ⟨gb422, 0, none⟩ (.int .i64 t416)).setCell ⟨gb422, 1, none⟩ (.int .i64 t417)).setCell ⟨gb422, 2, none⟩ (.slice Ao96 t418.length co96)).heap[gb383]? = some (.cells #[.int .i64 t378, .int .i64 t379, .slice Ao29 t380.length co29] 24 (0, 0))) := ⟨hf_ BK383.out NB383_422.out⟩
          have n10_ : Aside0 ((((w88.setCell ⟨gb422, 0, none⟩ (.int .i64 t416)).setCell ⟨gb422, 1, none⟩ (.int .i64 t417)).setCell ⟨gb422, 2, none⟩ (.slice Ao96 t418.length co96)).heap[gb388]? = some (.cells #[.int .i64 (wrap64 (t384 - 1)), .int .i64 (wrap64 (t385 - 1)), .int .i64 (wrap64 (t386 - 1)), .int .i64 (wrap64 (t387 - 1))] 25 (0, 0))) := ⟨hf_ BK388.out NB388_422.out⟩
          have n11_ : Aside0 ((((w88.setCell ⟨gb422, 0, none⟩ (.int .i64 t416)).setCell ⟨gb422, 1, none⟩ (.int .i64 t417)).setCell ⟨gb422, 2, none⟩ (.slice Ao96 t418.length co96)).heap[gb394]? = some (.cells #[.int .i64 ((rd_T25 y389 x11_1).f0), .int .i64 ((rd_T25 y389 x11_1).f1), .int .i64 ((rd_T25 y389 x11_1).f2), .int .i64 ((rd_T25 y389 x11_1).f3)] 25 (0, 0))) := ⟨hf_ BK394.out NB394_422.out⟩
          have n12_ : Aside0 ((((w88.setCell ⟨gb422, 0, none⟩ (.int .i64 t416)).setCell ⟨gb422, 1, none⟩ (.int .i64 t417)).setCell ⟨gb422, 2, none⟩ (.slice Ao96 t418.length co96)).heap[gb415]? = some (.cells #[.int .i64 t409, .int .i64 t410, .slice Ao81 t411.length co81] 32 (0, 0))) := ⟨hf_ BK415.out NB415_422.out⟩
          have n13_ : Aside0 ((((w88.setCell ⟨gb422, 0, none⟩ (.int .i64 t416)).setCell ⟨gb422, 1, none⟩ (.int .i64 t417)).setCell ⟨gb422, 2, none⟩ (.slice Ao96 t418.length co96)).heap[gb422]? = some (.cells #[.int .i64 t416, .int .i64 t417, .slice Ao96 t418.length co96] 24 (0, 0))) := ⟨by (with_reducible repeat (first | refine blk_drewN ?_ _ | refine blk_drew ?_ | refine blk_alloc ?_ _)); refine blk_put (cs := #[.int .i64 t416, .int .i64 t417, .slice none 0 0]) ?_ 2 _ rfl; (with_reducible repeat (first | refine blk_drewN ?_ _ | refine blk_drew ?_ | refine blk_alloc ?_ _)); refine blk_put (cs := #[.int .i64 t416, .int .i64 0, .slice none 0 0]) ?_ 1 _ rfl; (with_reducible repeat (first | refine blk_drewN ?_ _ | refine blk_drew ?_ | refine blk_alloc ?_ _)); refine blk_put (cs := #[.int .i64 0, .int .i64 0, .slice none 0 0]) ?_ 0 _ rfl; (with_reducible repeat (first | refine blk_drewN ?_ _ | refine blk_drew ?_ | refine blk_alloc ?_ _)); exact BK422.out⟩
          have n14_ : Aside0 (Below w.heap.size w (((w88.setCell ⟨gb422, 0, none⟩ (.int .i64 t416)).setCell ⟨gb422, 1, none⟩ (.int .i64 t417)).setCell ⟨gb422, 2, none⟩ (.slice Ao96 t418.length co96))) := ⟨bp_⟩
          (try clear HO_10)
          (try clear HO_378002)
          (try clear HO_384002)
          (try clear HO399)
          (try clear HO408)
          (try clear HO413)
          (try clear HO420)
          (try clear BK371)
          (try clear BK377)
          (try clear BK383)
          (try clear BK388)
          (try clear BK394)
          (try clear BK415)
          (try clear BK422)
          (try clear HB)
          generalize (((w88.setCell ⟨gb422, 0, none⟩ (.int .i64 t416)).setCell ⟨gb422, 1, none⟩ (.int .i64 t417)).setCell ⟨gb422, 2, none⟩ (.slice Ao96 t418.length co96)) = w122 at n0_ n1_ n2_ n3_ n4_ n5_ n6_ n7_ n8_ n9_ n10_ n11_ n12_ n13_ n14_ ⊢
          have HO_10 := n0_
          have HO_378002 := n1_
          have HO_384002 := n2_
          have HO399 := n3_
          have HO408 := n4_
          have HO413 := n5_
          have HO420 := n6_
          have BK371 := n7_
          have BK377 := n8_
          have BK383 := n9_
          have BK388 := n10_
          have BK394 := n11_
          have BK415 := n12_
          have BK422 := n13_
          have HB := n14_
          clear n0_ n1_ n2_ n3_ n4_ n5_ n6_ n7_ n8_ n9_ n10_ n11_ n12_ n13_ n14_
          replace HO_10 := Aside0.mk (Kd.R_drew HO_10.out)
          replace HO_378002 := Aside0.mk (Kd.V_drew HO_378002.out)
          replace HO_384002 := Aside0.mk (Kd.V_drew HO_384002.out)
          replace HO399 := Aside0.mk (Kd.V_drew HO399.out)
          replace HO408 := Aside0.mk (Kd.V_drew HO408.out)
          replace HO413 := Aside0.mk (Kd.R_drew HO413.out)
          replace HO420 := Aside0.mk (Kd.R_drew HO420.out)
          replace BK371 := Aside0.mk (blk_drew BK371.out)
          replace BK377 := Aside0.mk (blk_drew BK377.out)
          replace BK383 := Aside0.mk (blk_drew BK383.out)
          replace BK388 := Aside0.mk (blk_drew BK388.out)
          replace BK394 := Aside0.mk (blk_drew BK394.out)
          replace BK415 := Aside0.mk (blk_drew BK415.out)
          replace BK422 := Aside0.mk (blk_drew BK422.out)
          replace HB := Aside0.mk (below_drew1 HB.out)
          refine start_ (n := 39) (S := fun w' => w'.cell? ⟨gb377, 0, none⟩ = some (.int .i64 t372) ∧ w'.cell? ⟨gb377, 1, none⟩ = some (.int .i64 t373) ∧ w'.cell? ⟨gb377, 2, none⟩ = some (.slice Ao21 t374.length co21) ∧ w'.cell? ⟨gb383, 0, none⟩ = some (.int .i64 t378) ∧ w'.cell? ⟨gb383, 1, none⟩ = some (.int .i64 t379) ∧ w'.cell? ⟨gb383, 2, none⟩ = some (.slice Ao29 t380.length co29) ∧ w'.cell? ⟨gb394, 0, none⟩ = some (.int .i64 ((rd_T25 y389 x11_1).f0)) ∧ w'.cell? ⟨gb394, 1, none⟩ = some (.int .i64 ((rd_T25 y389 x11_1).f1)) ∧ w'.cell? ⟨gb394, 2, none⟩ = some (.int .i64 ((rd_T25 y389 x11_1).f2)) ∧ w'.cell? ⟨gb394, 3, none⟩ = some (.int .i64 ((rd_T25 y389 x11_1).f3)) ∧ w'.cell? ⟨gb415, 0, none⟩ = some (.int .i64 t409) ∧ w'.cell? ⟨gb415, 1, none⟩ = some (.int .i64 t410) ∧ w'.cell? ⟨gb415, 2, none⟩ = some (.slice Ao81 t411.length co81) ∧ w'.cell? ⟨gb422, 0, none⟩ = some (.int .i64 t416) ∧ w'.cell? ⟨gb422, 1, none⟩ = some (.int .i64 t417) ∧ w'.cell? ⟨gb422, 2, none⟩ = some (.slice Ao96 t418.length co96)) (ds := []) Fl98 (by kernel_rfl) rfl rfl ⟨(blk_cell BK377.out 0).trans rfl, (blk_cell BK377.out 1).trans rfl, (blk_cell BK377.out 2).trans rfl, (blk_cell BK383.out 0).trans rfl, (blk_cell BK383.out 1).trans rfl, (blk_cell BK383.out 2).trans rfl, (blk_cell BK394.out 0).trans rfl, (blk_cell BK394.out 1).trans rfl, (blk_cell BK394.out 2).trans rfl, (blk_cell BK394.out 3).trans rfl, (blk_cell BK415.out 0).trans rfl, (blk_cell BK415.out 1).trans rfl, (blk_cell BK415.out 2).trans rfl, (blk_cell BK422.out 0).trans rfl, (blk_cell BK422.out 1).trans rfl, (blk_cell BK422.out 2).trans rfl⟩ (fun hHeld => ?_); refine with_tabW chequerlaw03_RectParts.tab13 chequerlaw03_RectParts.bits13 (fun HT_ HW_ => ?_)
          generalize w122.drew = w123 at HO_10 HO_378002 HO_384002 HO399 HO408 HO413 HO420 BK371 BK377 BK383 BK388 BK394 BK415 BK422 HB hHeld ⊢
          refine pur_ (i := 0) (N := some 99) Fl99 (any_of HT_.out (by kernel_rfl)) ?_
          refine pur_ (i := 1) (N := some 100) Fl100 (any_of HT_.out (by kernel_rfl)) ?_
          refine pur_ (i := 2) (N := some 101) Fl101 (any_of HT_.out (by kernel_rfl)) ?_
          refine pur_ (i := 3) (N := some 102) Fl102 (any_of HT_.out (by kernel_rfl)) ?_
          refine pur_ (i := 4) (N := some 103) Fl103 (any_of HT_.out (by kernel_rfl)) ?_
          refine pur_ (i := 5) (N := some 104) Fl104 (any_of HT_.out (by kernel_rfl)) ?_
          refine pur_ (i := 6) (N := some 105) Fl105 (any_of HT_.out (by kernel_rfl)) ?_
          refine pur_ (i := 7) (N := some 106) Fl106 (any_of HT_.out (by kernel_rfl)) ?_
          refine pur_ (i := 8) (N := some 107) Fl107 (any_of HT_.out (by kernel_rfl)) ?_
          refine pur_ (i := 9) (N := some 108) Fl108 (any_of HT_.out (by kernel_rfl)) ?_
          refine pur_ (i := 10) (N := some 109) Fl109 (any_of HT_.out (by kernel_rfl)) ?_
          refine pur_ (i := 11) (N := some 110) Fl110 (any_of HT_.out (by kernel_rfl)) ?_
          refine pur_ (i := 12) (N := some 111) Fl111 (any_of HT_.out (by kernel_rfl)) ?_
          refine pur_ (i := 13) (N := some 112) Fl112 (any_of HT_.out (by kernel_rfl)) ?_
          refine take_ (i := 14) (N := some 113) (v := ?_) (a' := ?_) Fl113 rfl rfl (take_ofW HT_.out HW_.out (by kernel_rfl)) (fun _ _ _ h => h) (Or.inl ⟨by rfl, ?_⟩) hHeld ?_ ?_
          rotate_left
          · rintro w' ⟨s0, s1, s2, s3, s4, s5, s6, s7, s8, s9, s10, s11, s12, s13, s14, s15⟩
            go_simp
            with_reducible rfl
          rotate_left
          · simp only [Act.put, List.setIfInBounds_toArray, List.set_cons_zero, List.set_cons_succ, i64_w, i32_w]
            rfl
          refine take_ (i := 16) (N := some 115) (v := ?_) (a' := ?_) Fl165 rfl rfl (take_ofW HT_.out HW_.out (by kernel_rfl)) (fun _ _ _ h => h) (Or.inl ⟨by rfl, ?_⟩) hHeld ?_ ?_
          rotate_left
          · rintro w' ⟨s0, s1, s2, s3, s4, s5, s6, s7, s8, s9, s10, s11, s12, s13, s14, s15⟩
            go_simp
            with_reducible rfl
          rotate_left
          · simp only [Act.put, List.setIfInBounds_toArray, List.set_cons_zero, List.set_cons_succ, i64_w, i32_w]
            rfl
          refine one_ (i := 15) (N := some 114) Fl114 rfl rfl (one_of HT_.out (by kernel_rfl)) (by decide) (fun K hK => ?_)
          refine goes_ Try.func27 (by kernel_rfl) rfl #[.agg #[.int .i64 t409, .int .i64 t410, .slice Ao81 t411.length co81]] (by rfl) rfl rfl (by (try simp only [List.map_toArray, List.map_cons, List.map_nil]); first | done | rfl | (simp only [List.length_drop, List.length_take]; rfl)) ?_
          with_reducible refine (chequerlaw03_as.calls t409 t410 (fun k_ => some k_ = (.slice Ao81 t411.length co81 : Value).ownBlock) _ _ t411 t423 t424 t425 _ ?side1 A104.out).mono ?_
          (case side1 => exact Kd.R_V (Kd.R_tight rfl (Kd.R_types (Kd.R_types (Kd.R_types (Kd.R_types (Kd.R_types (Kd.R_types (Kd.R_types (Kd.R_apart' (HO413.out) (Kd.R_typed HO_10.out) (by decide)) BK371.out (by decide)) BK377.out (by decide)) BK383.out (by decide)) BK388.out (by decide)) BK394.out (by decide)) BK415.out (by decide)) BK422.out (by decide))))
          rintro e w124 ⟨v426, rfl, ho0, hb⟩
          refine ⟨_, rfl, ?_⟩
          replace HO_378002 := Aside0.mk (Kd.V_below (vp_ HO_378002.out) hb)
          replace HO_384002 := Aside0.mk (Kd.V_below (vp_ HO_384002.out) hb)
          replace HO399 := Aside0.mk (Kd.V_below (vp_ HO399.out) hb)
          replace HO408 := Aside0.mk (Kd.V_below (vp_ HO408.out) hb)
          have HO427 := Aside0.mk (Kd.V_lower (Kd.V_mono (ok' := fun k_ => some k_ ≠ (.slice (some ad393) y389.length co55 : Value).ownBlock ∧ some k_ ≠ (.slice Ao96 t418.length co96 : Value).ownBlock ∧ k_ ≠ gb371 ∧ k_ ≠ gb377 ∧ k_ ≠ gb383 ∧ k_ ≠ gb388 ∧ k_ ≠ gb394 ∧ k_ ≠ gb415 ∧ k_ ≠ gb422) ho0 (fun k_ hk_ => ⟨Or.elim hk_ (fun hs_ => ((Kd.R_types (Kd.R_types (Kd.R_types (Kd.R_types (Kd.R_types (Kd.R_types (Kd.R_types (Kd.R_apart' (HO413.out) (Kd.R_typed HO_10.out) (by decide)) BK371.out (by decide)) BK377.out (by decide)) BK383.out (by decide)) BK388.out (by decide)) BK394.out (by decide)) BK415.out (by decide)) BK422.out (by decide)).1 k_ hs_.symm).1.1.1.1.1.1.1.2) (fun hn_ => (Kd.fresh' (Kd.R_lt (rp_ HO_10.out)) k_ hn_)), Or.elim hk_ (fun hs_ => ((Kd.R_types (Kd.R_types (Kd.R_types (Kd.R_types (Kd.R_types (Kd.R_types (Kd.R_types (Kd.R_apart' (HO413.out) (Kd.R_typed HO_10.out) (by decide)) BK371.out (by decide)) BK377.out (by decide)) BK383.out (by decide)) BK388.out (by decide)) BK394.out (by decide)) BK415.out (by decide)) BK422.out (by decide)).1 k_ hs_.symm).1.1.1.1.1.1.1.1) (fun hn_ => (Kd.fresh' (Kd.R_lt (rp_ HO420.out)) k_ hn_)), Or.elim hk_ (fun hs_ => ((Kd.R_types (Kd.R_types (Kd.R_types (Kd.R_types (Kd.R_types (Kd.R_types (Kd.R_types (Kd.R_apart' (HO413.out) (Kd.R_typed HO_10.out) (by decide)) BK371.out (by decide)) BK377.out (by decide)) BK383.out (by decide)) BK388.out (by decide)) BK394.out (by decide)) BK415.out (by decide)) BK422.out (by decide)).1 k_ hs_.symm).1.1.1.1.1.1.2) (fun hn_ => (Kd.freshB (g := gb371) (o := .cells #[.int .i64 a2_0, .int .i64 a2_1, .int .i64 a2_2, .int .i64 a2_3] 25 (0, 0)) (hp_ BK371.out) k_ hn_)), Or.elim hk_ (fun hs_ => ((Kd.R_types (Kd.R_types (Kd.R_types (Kd.R_types (Kd.R_types (Kd.R_types (Kd.R_types (Kd.R_apart' (HO413.out) (Kd.R_typed HO_10.out) (by decide)) BK371.out (by decide)) BK377.out (by decide)) BK383.out (by decide)) BK388.out (by decide)) BK394.out (by decide)) BK415.out (by decide)) BK422.out (by decide)).1 k_ hs_.symm).1.1.1.1.1.2) (fun hn_ => (Kd.freshB (g := gb377) (o := .cells #[.int .i64 t372, .int .i64 t373, .slice Ao21 t374.length co21] 24 (0, 0)) (hp_ BK377.out) k_ hn_)), Or.elim hk_ (fun hs_ => ((Kd.R_types (Kd.R_types (Kd.R_types (Kd.R_types (Kd.R_types (Kd.R_types (Kd.R_types (Kd.R_apart' (HO413.out) (Kd.R_typed HO_10.out) (by decide)) BK371.out (by decide)) BK377.out (by decide)) BK383.out (by decide)) BK388.out (by decide)) BK394.out (by decide)) BK415.out (by decide)) BK422.out (by decide)).1 k_ hs_.symm).1.1.1.1.2) (fun hn_ => (Kd.freshB (g := gb383) (o := .cells #[.int .i64 t378, .int .i64 t379, .slice Ao29 t380.length co29] 24 (0, 0)) (hp_ BK383.out) k_ hn_)), Or.elim hk_ (fun hs_ => ((Kd.R_types (Kd.R_types (Kd.R_types (Kd.R_types (Kd.R_types (Kd.R_types (Kd.R_types (Kd.R_apart' (HO413.out) (Kd.R_typed HO_10.out) (by decide)) BK371.out (by decide)) BK377.out (by decide)) BK383.out (by decide)) BK388.out (by decide)) BK394.out (by decide)) BK415.out (by decide)) BK422.out (by decide)).1 k_ hs_.symm).1.1.1.2) (fun hn_ => (Kd.freshB (g := gb388) (o := .cells #[.int .i64 (wrap64 (t384 - 1)), .int .i64 (wrap64 (t385 - 1)), .int .i64 (wrap64 (t386 - 1)), .int .i64 (wrap64 (t387 - 1))] 25 (0, 0)) (hp_ BK388.out) k_ hn_)), Or.elim hk_ (fun hs_ => ((Kd.R_types (Kd.R_types (Kd.R_types (Kd.R_types (Kd.R_types (Kd.R_types (Kd.R_types (Kd.R_apart' (HO413.out) (Kd.R_typed HO_10.out) (by decide)) BK371.out (by decide)) BK377.out (by decide)) BK383.out (by decide)) BK388.out (by decide)) BK394.out (by decide)) BK415.out (by decide)) BK422.out (by decide)).1 k_ hs_.symm).1.1.2) (fun hn_ => (Kd.freshB (g := gb394) (o := .cells #[.int .i64 ((rd_T25 y389 x11_1).f0), .int .i64 ((rd_T25 y389 x11_1).f1), .int .i64 ((rd_T25 y389 x11_1).f2), .int .i64 ((rd_T25 y389 x11_1).f3)] 25 (0, 0)) (hp_ BK394.out) k_ hn_)), Or.elim hk_ (fun hs_ => ((Kd.R_types (Kd.R_types (Kd.R_types (Kd.R_types (Kd.R_types (Kd.R_types (Kd.R_types (Kd.R_apart' (HO413.out) (Kd.R_typed HO_10.out) (by decide)) BK371.out (by decide)) BK377.out (by decide)) BK383.out (by decide)) BK388.out (by decide)) BK394.out (by decide)) BK415.out (by decide)) BK422.out (by decide)).1 k_ hs_.symm).1.2) (fun hn_ => (Kd.freshB (g := gb415) (o := .cells #[.int .i64 t409, .int .i64 t410, .slice Ao81 t411.length co81] 32 (0, 0)) (hp_ BK415.out) k_ hn_)), Or.elim hk_ (fun hs_ => ((Kd.R_types (Kd.R_types (Kd.R_types (Kd.R_types (Kd.R_types (Kd.R_types (Kd.R_types (Kd.R_apart' (HO413.out) (Kd.R_typed HO_10.out) (by decide)) BK371.out (by decide)) BK377.out (by decide)) BK383.out (by decide)) BK388.out (by decide)) BK394.out (by decide)) BK415.out (by decide)) BK422.out (by decide)).1 k_ hs_.symm).2) (fun hn_ => (Kd.freshB (g := gb422) (o := .cells #[.int .i64 t416, .int .i64 t417, .slice Ao96 t418.length co96] 24 (0, 0)) (hp_ BK422.out) k_ hn_))⟩)) (below_size bp_))
          replace HO_10 := Aside0.mk (Kd.R_below (rp_ HO_10.out) hb)
          replace HO413 := Aside0.mk (Kd.R_below (rp_ HO413.out) hb)
          replace HO420 := Aside0.mk (Kd.R_below (rp_ HO420.out) hb)
          replace BK371 := Aside0.mk (blk_below (hp_ BK371.out) hb)
          replace BK377 := Aside0.mk (blk_below (hp_ BK377.out) hb)
          replace BK383 := Aside0.mk (blk_below (hp_ BK383.out) hb)
          replace BK388 := Aside0.mk (blk_below (hp_ BK388.out) hb)
          replace BK394 := Aside0.mk (blk_below (hp_ BK394.out) hb)
          replace BK415 := Aside0.mk (blk_below (hp_ BK415.out) hb)
          replace BK422 := Aside0.mk (blk_below (hp_ BK422.out) hb)
          replace HB := Aside0.mk (below_step bp_ hb)
          (try clear hb)
          (try clear hb2)
          (try clear hk)
          (try clear hi)
          (try clear ho0)
          obtain ⟨Ao125, co125, eo125⟩ := Kd.V_slice HO427.out
          (first | subst eo125 | (injection eo125 with f1_ f2_ f3_; have f4_ := f1_.symm; have f5_ := f3_.symm; clear f1_ f2_ f3_; subst f4_; subst f5_))
          refine hK.out _ _ ⟨(blk_cell BK377.out 0).trans rfl, (blk_cell BK377.out 1).trans rfl, (blk_cell BK377.out 2).trans rfl, (blk_cell BK383.out 0).trans rfl, (blk_cell BK383.out 1).trans rfl, (blk_cell BK383.out 2).trans rfl, (blk_cell BK394.out 0).trans rfl, (blk_cell BK394.out 1).trans rfl, (blk_cell BK394.out 2).trans rfl, (blk_cell BK394.out 3).trans rfl, (blk_cell BK415.out 0).trans rfl, (blk_cell BK415.out 1).trans rfl, (blk_cell BK415.out 2).trans rfl, (blk_cell BK422.out 0).trans rfl, (blk_cell BK422.out 1).trans rfl, (blk_cell BK422.out 2).trans rfl⟩ (fun hHeld => ?_)
          clear hK K
          refine norm_ (a' := ?_) ?_ ?_
          rotate_left
          · show Act.put _ (some 114) _ = _
            simp only [Act.put, List.setIfInBounds_toArray, List.set_cons_zero, List.set_cons_succ, i64_w, i32_w]
            rfl
          refine one_ (i := 17) (N := some 116) Fl115 rfl rfl (one_of HT_.out (by kernel_rfl)) (by decide) (fun K hK => ?_)
          refine goes_ Try.func26 (by kernel_rfl) rfl #[.agg #[.int .i64 t423, .int .i64 t424, .slice Ao125 t425.length co125], .agg #[.int .i64 t416, .int .i64 t417, .slice Ao96 t418.length co96]] (by rfl) rfl rfl (by (try simp only [List.map_toArray, List.map_cons, List.map_nil]); first | done | rfl | (simp only [List.length_drop, List.length_take]; rfl)) ?_
          with_reducible refine (chequerref03_Same.calls k1 t423 t424 _ _ t425 t416 t417 _ _ t418 false _ ?side1 ?side2 ?side3 ?side4 A105.out).mono ?_
          (case side1 => exact cp_ (Kd.V_reads' HO427.out).2.2)
          (case side2 => exact (Kd.V_reads' HO427.out).2.1)
          (case side3 => exact cp_ (Kd.R_reads' HO420.out).2.2)
          (case side4 => exact (Kd.R_reads' HO420.out).2.1)
          rintro e w126 ⟨rfl, hb⟩
          refine ⟨_, rfl, ?_⟩
          replace HO_10 := Aside0.mk (Kd.R_below (rp_ HO_10.out) hb)
          replace HO_378002 := Aside0.mk (Kd.V_below (vp_ HO_378002.out) hb)
          replace HO_384002 := Aside0.mk (Kd.V_below (vp_ HO_384002.out) hb)
          replace HO399 := Aside0.mk (Kd.V_below (vp_ HO399.out) hb)
          replace HO408 := Aside0.mk (Kd.V_below (vp_ HO408.out) hb)
          replace HO413 := Aside0.mk (Kd.R_below (rp_ HO413.out) hb)
          replace HO420 := Aside0.mk (Kd.R_below (rp_ HO420.out) hb)
          replace HO427 := Aside0.mk (Kd.V_below (vp_ HO427.out) hb)
          replace BK371 := Aside0.mk (blk_below (hp_ BK371.out) hb)
          replace BK377 := Aside0.mk (blk_below (hp_ BK377.out) hb)
          replace BK383 := Aside0.mk (blk_below (hp_ BK383.out) hb)
          replace BK388 := Aside0.mk (blk_below (hp_ BK388.out) hb)
          replace BK394 := Aside0.mk (blk_below (hp_ BK394.out) hb)
          replace BK415 := Aside0.mk (blk_below (hp_ BK415.out) hb)
          replace BK422 := Aside0.mk (blk_below (hp_ BK422.out) hb)
          replace HB := Aside0.mk (below_step bp_ hb)
          (try clear hb)
          (try clear hb2)
          (try clear hk)
          (try clear hi)
          refine hK.out _ _ ⟨(blk_cell BK377.out 0).trans rfl, (blk_cell BK377.out 1).trans rfl, (blk_cell BK377.out 2).trans rfl, (blk_cell BK383.out 0).trans rfl, (blk_cell BK383.out 1).trans rfl, (blk_cell BK383.out 2).trans rfl, (blk_cell BK394.out 0).trans rfl, (blk_cell BK394.out 1).trans rfl, (blk_cell BK394.out 2).trans rfl, (blk_cell BK394.out 3).trans rfl, (blk_cell BK415.out 0).trans rfl, (blk_cell BK415.out 1).trans rfl, (blk_cell BK415.out 2).trans rfl, (blk_cell BK422.out 0).trans rfl, (blk_cell BK422.out 1).trans rfl, (blk_cell BK422.out 2).trans rfl⟩ (fun hHeld => ?_)
          clear hK K
          refine norm_ (a' := ?_) ?_ ?_
          rotate_left
          · show Act.put _ (some 116) _ = _
            simp only [Act.put, List.setIfInBounds_toArray, List.set_cons_zero, List.set_cons_succ, i64_w, i32_w]
            rfl
          refine pur_ (i := 18) (N := some 117) Fl116 (any_of HT_.out (by kernel_rfl)) ?_
          refine pur_ (i := 19) (N := some 118) Fl117 (any_of HT_.out (by kernel_rfl)) ?_
          refine pur_ (i := 20) (N := some 119) Fl118 (any_of HT_.out (by kernel_rfl)) ?_
          refine pun_ (i := 21) (N := some 120) Fl124 (any_of HT_.out (by kernel_rfl)) ?_
          refine pun_ (i := 22) (N := some 121) Fl125 (any_of HT_.out (by kernel_rfl)) ?_
          refine pun_ (i := 23) (N := some 122) Fl126 (any_of HT_.out (by kernel_rfl)) ?_
          refine pun_ (i := 24) (N := some 123) Fl127 (any_of HT_.out (by kernel_rfl)) ?_
          refine pun_ (i := 25) (N := some 124) Fl128 (any_of HT_.out (by kernel_rfl)) ?_
          refine pun_ (i := 26) (N := some 125) Fl129 (any_of HT_.out (by kernel_rfl)) ?_
          refine pun_ (i := 27) (N := some 126) Fl130 (any_of HT_.out (by kernel_rfl)) ?_
          refine pun_ (i := 28) (N := some 127) Fl131 (any_of HT_.out (by kernel_rfl)) ?_
          refine pun_ (i := 29) (N := some 128) Fl132 (any_of HT_.out (by kernel_rfl)) ?_
          refine pun_ (i := 30) (N := some 129) Fl133 (any_of HT_.out (by kernel_rfl)) ?_
          refine pun_ (i := 31) (N := some 130) Fl134 (any_of HT_.out (by kernel_rfl)) ?_
          refine pun_ (i := 32) (N := some 131) Fl135 (any_of HT_.out (by kernel_rfl)) ?_
          refine pun_ (i := 33) (N := some 132) Fl136 (any_of HT_.out (by kernel_rfl)) ?_
          refine pun_ (i := 34) (N := some 133) Fl137 (any_of HT_.out (by kernel_rfl)) ?_
          refine pun_ (i := 35) (N := some 134) Fl119 (any_of HT_.out (by kernel_rfl)) ?_
          refine pun_ (i := 36) (N := some 135) Fl120 (any_of HT_.out (by kernel_rfl)) ?_
          refine pun_ (i := 37) (N := some 136) Fl121 (any_of HT_.out (by kernel_rfl)) ?_
          refine pur_ (i := 38) (N := some 137) Fl122 (any_of HT_.out (by kernel_rfl)) ?_
          refine done_ (done_of HT_.out (by kernel_rfl)) ?_
          try go_wp2
          go_meet
          case rel => exact ⟨_, (true), (by first | rfl | (simp; done) | (simp [*]; done)), H', ⟨by have := HK1.out; first | omega | exact Nat.le_refl _⟩, ⟨rp_ HO_10.out⟩, ⟨vp_ HO_378002.out⟩, ⟨vp_ HO_384002.out⟩, ⟨rp_ HO413.out⟩, ⟨rp_ HO420.out⟩, ⟨hp_ BK371.out⟩, ⟨hp_ BK377.out⟩, ⟨hp_ BK383.out⟩, ⟨hp_ BK388.out⟩, ⟨hp_ BK394.out⟩, ⟨hp_ BK415.out⟩, ⟨hp_ BK422.out⟩, ⟨bp_⟩⟩
  · rw [if_neg c97] at H
    have c97b0 : (t400 == t402) = false := beq_eq_false_iff_ne.mpr c97
    have c97b1 : (t400 != t402) = true := bne_iff_ne.mpr c97
    (first | rw [c97b0] | (simp only [i64_w, i32_w]; rw [c97b0]) | skip)
    have H' := Aside0.mk H
    clear H
    try go_wp2
    have n0_ : Aside0 (Kd.R k25 25 (((w88.setCell ⟨gb422, 0, none⟩ (.int .i64 t416)).setCell ⟨gb422, 1, none⟩ (.int .i64 t417)).setCell ⟨gb422, 2, none⟩ (.slice Ao96 t418.length co96)) w.heap.size (fun k_ => k_ ≠ gb371 ∧ k_ ≠ gb388 ∧ k_ ≠ gb394) (.slice (some ad393) y389.length co55) y389) := ⟨rf_ HO_10.out BK422.out (by decide) (fun _ hk => ⟨hk.1.1, ⟨hk.1.2.1, hk.1.2.2⟩⟩)⟩
    have n1_ : Aside0 (Kd.V (Kd.int .u64) 46 (((w88.setCell ⟨gb422, 0, none⟩ (.int .i64 t416)).setCell ⟨gb422, 1, none⟩ (.int .i64 t417)).setCell ⟨gb422, 2, none⟩ (.slice Ao96 t418.length co96)) w.heap.size (fun k_ => some k_ ≠ (.slice (some ad393) y389.length co55 : Value).ownBlock ∧ some k_ ≠ (.slice Ao81 t411.length co81 : Value).ownBlock ∧ some k_ ≠ (.slice Ao96 t418.length co96 : Value).ownBlock ∧ k_ ≠ gb371 ∧ k_ ≠ gb377 ∧ k_ ≠ gb383 ∧ k_ ≠ gb388 ∧ k_ ≠ gb394 ∧ k_ ≠ gb415 ∧ k_ ≠ gb422) (.slice Ao21 t374.length co21) t374) := ⟨by (with_reducible repeat (first | apply Kd.V_alloc | apply Kd.V_drewN | apply Kd.V_drew)); exact Kd.V_mono (Kd.V_far (p := ⟨gb422, 2, none⟩) (Kd.V_far (p := ⟨gb422, 1, none⟩) (Kd.V_far (p := ⟨gb422, 0, none⟩) (Kd.V_mono HO_378002.out (fun k_ hk => (⟨hk, hk.2⟩ : _ ∧ k_ ≠ gb422))) (fun _ hk => hk.2) (.int .i64 t416)) (fun _ hk => hk.2) (.int .i64 t417)) (fun _ hk => hk.2) (.slice Ao96 t418.length co96)) (fun _ hk => ⟨hk.1.1.1.2.1, ⟨hk.1.1.1.1, ⟨hk.1.1.2, ⟨hk.1.1.1.2.2.1, ⟨hk.1.1.1.2.2.2.1, ⟨hk.1.1.1.2.2.2.2.1, ⟨hk.1.1.1.2.2.2.2.2.1, ⟨hk.1.1.1.2.2.2.2.2.2.1, ⟨hk.1.1.1.2.2.2.2.2.2.2, hk.1.2⟩⟩⟩⟩⟩⟩⟩⟩⟩)⟩
    have n2_ : Aside0 (Kd.V (Kd.int .u64) 46 (((w88.setCell ⟨gb422, 0, none⟩ (.int .i64 t416)).setCell ⟨gb422, 1, none⟩ (.int .i64 t417)).setCell ⟨gb422, 2, none⟩ (.slice Ao96 t418.length co96)) w.heap.size (fun k_ => some k_ ≠ (.slice (some ad393) y389.length co55 : Value).ownBlock ∧ some k_ ≠ (.slice Ao81 t411.length co81 : Value).ownBlock ∧ some k_ ≠ (.slice Ao96 t418.length co96 : Value).ownBlock ∧ k_ ≠ gb371 ∧ k_ ≠ gb377 ∧ k_ ≠ gb383 ∧ k_ ≠ gb388 ∧ k_ ≠ gb394 ∧ k_ ≠ gb415 ∧ k_ ≠ gb422) (.slice Ao29 t380.length co29) t380) := ⟨by (with_reducible repeat (first | apply Kd.V_alloc | apply Kd.V_drewN | apply Kd.V_drew)); exact Kd.V_mono (Kd.V_far (p := ⟨gb422, 2, none⟩) (Kd.V_far (p := ⟨gb422, 1, none⟩) (Kd.V_far (p := ⟨gb422, 0, none⟩) (Kd.V_mono HO_384002.out (fun k_ hk => (⟨hk, hk.2⟩ : _ ∧ k_ ≠ gb422))) (fun _ hk => hk.2) (.int .i64 t416)) (fun _ hk => hk.2) (.int .i64 t417)) (fun _ hk => hk.2) (.slice Ao96 t418.length co96)) (fun _ hk => ⟨hk.1.1.1.2.1, ⟨hk.1.1.1.1, ⟨hk.1.1.2, ⟨hk.1.1.1.2.2.1, ⟨hk.1.1.1.2.2.2.1, ⟨hk.1.1.1.2.2.2.2.1, ⟨hk.1.1.1.2.2.2.2.2.1, ⟨hk.1.1.1.2.2.2.2.2.2.1, ⟨hk.1.1.1.2.2.2.2.2.2.2, hk.1.2⟩⟩⟩⟩⟩⟩⟩⟩⟩)⟩
    have n3_ : Aside0 (Kd.V (Kd.int .u64) 46 (((w88.setCell ⟨gb422, 0, none⟩ (.int .i64 t416)).setCell ⟨gb422, 1, none⟩ (.int .i64 t417)).setCell ⟨gb422, 2, none⟩ (.slice Ao96 t418.length co96)) w.heap.size (fun k_ => some k_ ≠ (.slice (some ad393) y389.length co55 : Value).ownBlock ∧ some k_ ≠ (.slice Ao81 t411.length co81 : Value).ownBlock ∧ some k_ ≠ (.slice Ao96 t418.length co96 : Value).ownBlock ∧ k_ ≠ gb371 ∧ k_ ≠ gb377 ∧ k_ ≠ gb383 ∧ k_ ≠ gb388 ∧ k_ ≠ gb394 ∧ k_ ≠ gb415 ∧ k_ ≠ gb422) (.slice Ao65 t397.length co65) t397) := ⟨by (with_reducible repeat (first | apply Kd.V_alloc | apply Kd.V_drewN | apply Kd.V_drew)); exact Kd.V_mono (Kd.V_far (p := ⟨gb422, 2, none⟩) (Kd.V_far (p := ⟨gb422, 1, none⟩) (Kd.V_far (p := ⟨gb422, 0, none⟩) (Kd.V_mono HO399.out (fun k_ hk => (⟨hk, hk.2⟩ : _ ∧ k_ ≠ gb422))) (fun _ hk => hk.2) (.int .i64 t416)) (fun _ hk => hk.2) (.int .i64 t417)) (fun _ hk => hk.2) (.slice Ao96 t418.length co96)) (fun _ hk => ⟨hk.1.1.1.2.1, ⟨hk.1.1.1.1, ⟨hk.1.1.2, ⟨hk.1.1.1.2.2.1, ⟨hk.1.1.1.2.2.2.1, ⟨hk.1.1.1.2.2.2.2.1, ⟨hk.1.1.1.2.2.2.2.2.1, ⟨hk.1.1.1.2.2.2.2.2.2.1, ⟨hk.1.1.1.2.2.2.2.2.2.2, hk.1.2⟩⟩⟩⟩⟩⟩⟩⟩⟩)⟩
    have n4_ : Aside0 (Kd.V (Kd.int .u64) 46 (((w88.setCell ⟨gb422, 0, none⟩ (.int .i64 t416)).setCell ⟨gb422, 1, none⟩ (.int .i64 t417)).setCell ⟨gb422, 2, none⟩ (.slice Ao96 t418.length co96)) w.heap.size (fun k_ => some k_ ≠ (.slice (some ad393) y389.length co55 : Value).ownBlock ∧ some k_ ≠ (.slice Ao81 t411.length co81 : Value).ownBlock ∧ some k_ ≠ (.slice Ao96 t418.length co96 : Value).ownBlock ∧ k_ ≠ gb371 ∧ k_ ≠ gb377 ∧ k_ ≠ gb383 ∧ k_ ≠ gb388 ∧ k_ ≠ gb394 ∧ k_ ≠ gb415 ∧ k_ ≠ gb422) v407 t406) := ⟨by (with_reducible repeat (first | apply Kd.V_alloc | apply Kd.V_drewN | apply Kd.V_drew)); exact Kd.V_mono (Kd.V_far (p := ⟨gb422, 2, none⟩) (Kd.V_far (p := ⟨gb422, 1, none⟩) (Kd.V_far (p := ⟨gb422, 0, none⟩) (Kd.V_mono HO408.out (fun k_ hk => (⟨hk, hk.2⟩ : _ ∧ k_ ≠ gb422))) (fun _ hk => hk.2) (.int .i64 t416)) (fun _ hk => hk.2) (.int .i64 t417)) (fun _ hk => hk.2) (.slice Ao96 t418.length co96)) (fun _ hk => ⟨hk.1.1.1.2.1, ⟨hk.1.1.1.1, ⟨hk.1.1.2, ⟨hk.1.1.1.2.2.1, ⟨hk.1.1.1.2.2.2.1, ⟨hk.1.1.1.2.2.2.2.1, ⟨hk.1.1.1.2.2.2.2.2.1, ⟨hk.1.1.1.2.2.2.2.2.2.1, ⟨hk.1.1.1.2.2.2.2.2.2.2, hk.1.2⟩⟩⟩⟩⟩⟩⟩⟩⟩)⟩
    have n5_ : Aside0 (Kd.R (Kd.int .u64) 46 (((w88.setCell ⟨gb422, 0, none⟩ (.int .i64 t416)).setCell ⟨gb422, 1, none⟩ (.int .i64 t417)).setCell ⟨gb422, 2, none⟩ (.slice Ao96 t418.length co96)) w.heap.size (fun k_ => some k_ ≠ (.slice Ao96 t418.length co96 : Value).ownBlock) (.slice Ao81 t411.length co81) t411) := ⟨rf_ HO413.out BK422.out (by decide) (fun _ hk => hk.1.2)⟩
    have n6_ : Aside0 (Kd.R (Kd.int .u64) 46 (((w88.setCell ⟨gb422, 0, none⟩ (.int .i64 t416)).setCell ⟨gb422, 1, none⟩ (.int .i64 t417)).setCell ⟨gb422, 2, none⟩ (.slice Ao96 t418.length co96)) w.heap.size (fun k_ => some k_ ≠ (.slice Ao81 t411.length co81 : Value).ownBlock) (.slice Ao96 t418.length co96) t418) := ⟨rf_ HO420.out BK422.out (by decide) (fun _ hk => hk.1.2)⟩
    have n7_ : Aside0 ((((w88.setCell ⟨gb422, 0, none⟩ (.int .i64 t416)).setCell ⟨gb422, 1, none⟩ (.int .i64 t417)).setCell ⟨gb422, 2, none⟩ (.slice Ao96 t418.length co96)).heap[gb371]? = some (.cells #[.int .i64 a2_0, .int .i64 a2_1, .int .i64 a2_2, .int .i64 a2_3] 25 (0, 0))) := ⟨hf_ BK371.out NB371_422.out⟩
    have n8_ : Aside0 ((((w88.setCell ⟨gb422, 0, none⟩ (.int .i64 t416)).setCell ⟨gb422, 1, none⟩ (.int .i64 t417)).setCell ⟨gb422, 2, none⟩ (.slice Ao96 t418.length co96)).heap[gb377]? = some (.cells #[.int .i64 t372, .int .i64 t373, .slice Ao21 t374.length co21] 24 (0, 0))) := ⟨hf_ BK377.out NB377_422.out⟩
    have n9_ : Aside0 ((((w88.setCell ⟨gb422, 0, none⟩ (.int .i64 t416)).setCell ⟨gb422, 1, none⟩ (.int .i64 t417)).setCell ⟨gb422, 2, none⟩ (.slice Ao96 t418.length co96)).heap[gb383]? = some (.cells #[.int .i64 t378, .int .i64 t379, .slice Ao29 t380.length co29] 24 (0, 0))) := ⟨hf_ BK383.out NB383_422.out⟩
    have n10_ : Aside0 ((((w88.setCell ⟨gb422, 0, none⟩ (.int .i64 t416)).setCell ⟨gb422, 1, none⟩ (.int .i64 t417)).setCell ⟨gb422, 2, none⟩ (.slice Ao96 t418.length co96)).heap[gb388]? = some (.cells #[.int .i64 (wrap64 (t384 - 1)), .int .i64 (wrap64 (t385 - 1)), .int .i64 (wrap64 (t386 - 1)), .int .i64 (wrap64 (t387 - 1))] 25 (0, 0))) := ⟨hf_ BK388.out NB388_422.out⟩
    have n11_ : Aside0 ((((w88.setCell ⟨gb422, 0, none⟩ (.int .i64 t416)).setCell ⟨gb422, 1, none⟩ (.int .i64 t417)).setCell ⟨gb422, 2, none⟩ (.slice Ao96 t418.length co96)).heap[gb394]? = some (.cells #[.int .i64 ((rd_T25 y389 x11_1).f0), .int .i64 ((rd_T25 y389 x11_1).f1), .int .i64 ((rd_T25 y389 x11_1).f2), .int .i64 ((rd_T25 y389 x11_1).f3)] 25 (0, 0))) := ⟨hf_ BK394.out NB394_422.out⟩
    have n12_ : Aside0 ((((w88.setCell ⟨gb422, 0, none⟩ (.int .i64 t416)).setCell ⟨gb422, 1, none⟩ (.int .i64 t417)).setCell ⟨gb422, 2, none⟩ (.slice Ao96 t418.length co96)).heap[gb415]? = some (.cells #[.int .i64 t409, .int .i64 t410, .slice Ao81 t411.length co81] 32 (0, 0))) := ⟨hf_ BK415.out NB415_422.out⟩
    have n13_ : Aside0 ((((w88.setCell ⟨gb422, 0, none⟩ (.int .i64 t416)).setCell ⟨gb422, 1, none⟩ (.int .i64 t417)).setCell ⟨gb422, 2, none⟩ (.slice Ao96 t418.length co96)).heap[gb422]? = some (.cells #[.int .i64 t416, .int .i64 t417, .slice Ao96 t418.length co96] 24 (0, 0))) := ⟨by (with_reducible repeat (first | refine blk_drewN ?_ _ | refine blk_drew ?_ | refine blk_alloc ?_ _)); refine blk_put (cs := #[.int .i64 t416, .int .i64 t417, .slice none 0 0]) ?_ 2 _ rfl; (with_reducible repeat (first | refine blk_drewN ?_ _ | refine blk_drew ?_ | refine blk_alloc ?_ _)); refine blk_put (cs := #[.int .i64 t416, .int .i64 0, .slice none 0 0]) ?_ 1 _ rfl; (with_reducible repeat (first | refine blk_drewN ?_ _ | refine blk_drew ?_ | refine blk_alloc ?_ _)); refine blk_put (cs := #[.int .i64 0, .int .i64 0, .slice none 0 0]) ?_ 0 _ rfl; (with_reducible repeat (first | refine blk_drewN ?_ _ | refine blk_drew ?_ | refine blk_alloc ?_ _)); exact BK422.out⟩
    have n14_ : Aside0 (Below w.heap.size w (((w88.setCell ⟨gb422, 0, none⟩ (.int .i64 t416)).setCell ⟨gb422, 1, none⟩ (.int .i64 t417)).setCell ⟨gb422, 2, none⟩ (.slice Ao96 t418.length co96))) := ⟨bp_⟩
    (try clear HO_10)
    (try clear HO_378002)
    (try clear HO_384002)
    (try clear HO399)
    (try clear HO408)
    (try clear HO413)
    (try clear HO420)
    (try clear BK371)
    (try clear BK377)
    (try clear BK383)
    (try clear BK388)
    (try clear BK394)
    (try clear BK415)
    (try clear BK422)
    (try clear HB)
    generalize (((w88.setCell ⟨gb422, 0, none⟩ (.int .i64 t416)).setCell ⟨gb422, 1, none⟩ (.int .i64 t417)).setCell ⟨gb422, 2, none⟩ (.slice Ao96 t418.length co96)) = w127 at n0_ n1_ n2_ n3_ n4_ n5_ n6_ n7_ n8_ n9_ n10_ n11_ n12_ n13_ n14_ ⊢
    have HO_10 := n0_
    have HO_378002 := n1_
    have HO_384002 := n2_
    have HO399 := n3_
    have HO408 := n4_
    have HO413 := n5_
    have HO420 := n6_
    have BK371 := n7_
    have BK377 := n8_
    have BK383 := n9_
    have BK388 := n10_
    have BK394 := n11_
    have BK415 := n12_
    have BK422 := n13_
    have HB := n14_
    clear n0_ n1_ n2_ n3_ n4_ n5_ n6_ n7_ n8_ n9_ n10_ n11_ n12_ n13_ n14_
    replace HO_10 := Aside0.mk (Kd.R_drew HO_10.out)
    replace HO_378002 := Aside0.mk (Kd.V_drew HO_378002.out)
    replace HO_384002 := Aside0.mk (Kd.V_drew HO_384002.out)
    replace HO399 := Aside0.mk (Kd.V_drew HO399.out)
    replace HO408 := Aside0.mk (Kd.V_drew HO408.out)
    replace HO413 := Aside0.mk (Kd.R_drew HO413.out)
    replace HO420 := Aside0.mk (Kd.R_drew HO420.out)
    replace BK371 := Aside0.mk (blk_drew BK371.out)
    replace BK377 := Aside0.mk (blk_drew BK377.out)
    replace BK383 := Aside0.mk (blk_drew BK383.out)
    replace BK388 := Aside0.mk (blk_drew BK388.out)
    replace BK394 := Aside0.mk (blk_drew BK394.out)
    replace BK415 := Aside0.mk (blk_drew BK415.out)
    replace BK422 := Aside0.mk (blk_drew BK422.out)
    replace HB := Aside0.mk (below_drew1 HB.out)
    refine start_ (n := 39) (S := fun w' => w'.cell? ⟨gb377, 0, none⟩ = some (.int .i64 t372) ∧ w'.cell? ⟨gb377, 1, none⟩ = some (.int .i64 t373) ∧ w'.cell? ⟨gb377, 2, none⟩ = some (.slice Ao21 t374.length co21) ∧ w'.cell? ⟨gb383, 0, none⟩ = some (.int .i64 t378) ∧ w'.cell? ⟨gb383, 1, none⟩ = some (.int .i64 t379) ∧ w'.cell? ⟨gb383, 2, none⟩ = some (.slice Ao29 t380.length co29) ∧ w'.cell? ⟨gb394, 0, none⟩ = some (.int .i64 ((rd_T25 y389 x11_1).f0)) ∧ w'.cell? ⟨gb394, 1, none⟩ = some (.int .i64 ((rd_T25 y389 x11_1).f1)) ∧ w'.cell? ⟨gb394, 2, none⟩ = some (.int .i64 ((rd_T25 y389 x11_1).f2)) ∧ w'.cell? ⟨gb394, 3, none⟩ = some (.int .i64 ((rd_T25 y389 x11_1).f3)) ∧ w'.cell? ⟨gb415, 0, none⟩ = some (.int .i64 t409) ∧ w'.cell? ⟨gb415, 1, none⟩ = some (.int .i64 t410) ∧ w'.cell? ⟨gb415, 2, none⟩ = some (.slice Ao81 t411.length co81) ∧ w'.cell? ⟨gb422, 0, none⟩ = some (.int .i64 t416) ∧ w'.cell? ⟨gb422, 1, none⟩ = some (.int .i64 t417) ∧ w'.cell? ⟨gb422, 2, none⟩ = some (.slice Ao96 t418.length co96)) (ds := []) Fl98 (by kernel_rfl) rfl rfl ⟨(blk_cell BK377.out 0).trans rfl, (blk_cell BK377.out 1).trans rfl, (blk_cell BK377.out 2).trans rfl, (blk_cell BK383.out 0).trans rfl, (blk_cell BK383.out 1).trans rfl, (blk_cell BK383.out 2).trans rfl, (blk_cell BK394.out 0).trans rfl, (blk_cell BK394.out 1).trans rfl, (blk_cell BK394.out 2).trans rfl, (blk_cell BK394.out 3).trans rfl, (blk_cell BK415.out 0).trans rfl, (blk_cell BK415.out 1).trans rfl, (blk_cell BK415.out 2).trans rfl, (blk_cell BK422.out 0).trans rfl, (blk_cell BK422.out 1).trans rfl, (blk_cell BK422.out 2).trans rfl⟩ (fun hHeld => ?_); refine with_tabW chequerlaw03_RectParts.tab13 chequerlaw03_RectParts.bits13 (fun HT_ HW_ => ?_)
    generalize w127.drew = w128 at HO_10 HO_378002 HO_384002 HO399 HO408 HO413 HO420 BK371 BK377 BK383 BK388 BK394 BK415 BK422 HB hHeld ⊢
    refine pur_ (i := 0) (N := some 99) Fl99 (any_of HT_.out (by kernel_rfl)) ?_
    refine pur_ (i := 1) (N := some 100) Fl100 (any_of HT_.out (by kernel_rfl)) ?_
    refine pur_ (i := 2) (N := some 101) Fl101 (any_of HT_.out (by kernel_rfl)) ?_
    refine pur_ (i := 3) (N := some 102) Fl102 (any_of HT_.out (by kernel_rfl)) ?_
    refine pun_ (i := 4) (N := some 103) Fl103 (any_of HT_.out (by kernel_rfl)) ?_
    refine pun_ (i := 5) (N := some 104) Fl104 (any_of HT_.out (by kernel_rfl)) ?_
    refine pun_ (i := 6) (N := some 105) Fl105 (any_of HT_.out (by kernel_rfl)) ?_
    refine pur_ (i := 7) (N := some 106) Fl106 (any_of HT_.out (by kernel_rfl)) ?_
    refine pur_ (i := 8) (N := some 107) Fl107 (any_of HT_.out (by kernel_rfl)) ?_
    refine pun_ (i := 9) (N := some 108) Fl108 (any_of HT_.out (by kernel_rfl)) ?_
    refine pun_ (i := 10) (N := some 109) Fl109 (any_of HT_.out (by kernel_rfl)) ?_
    refine pun_ (i := 11) (N := some 110) Fl110 (any_of HT_.out (by kernel_rfl)) ?_
    refine pur_ (i := 12) (N := some 111) Fl111 (any_of HT_.out (by kernel_rfl)) ?_
    refine pur_ (i := 13) (N := some 112) Fl112 (any_of HT_.out (by kernel_rfl)) ?_
    refine pun_ (i := 14) (N := some 113) Fl113 (any_of HT_.out (by kernel_rfl)) ?_
    refine pun_ (i := 15) (N := some 114) Fl147 (any_of HT_.out (by kernel_rfl)) ?_
    refine pun_ (i := 16) (N := some 115) Fl114 (any_of HT_.out (by kernel_rfl)) ?_
    refine pun_ (i := 17) (N := some 116) Fl115 (any_of HT_.out (by kernel_rfl)) ?_
    refine pun_ (i := 18) (N := some 117) Fl116 (any_of HT_.out (by kernel_rfl)) ?_
    refine pur_ (i := 19) (N := some 118) Fl117 (any_of HT_.out (by kernel_rfl)) ?_
    refine pur_ (i := 20) (N := some 119) Fl118 (any_of HT_.out (by kernel_rfl)) ?_
    refine pun_ (i := 21) (N := some 120) Fl124 (any_of HT_.out (by kernel_rfl)) ?_
    refine pun_ (i := 22) (N := some 121) Fl125 (any_of HT_.out (by kernel_rfl)) ?_
    refine pun_ (i := 23) (N := some 122) Fl126 (any_of HT_.out (by kernel_rfl)) ?_
    refine pun_ (i := 24) (N := some 123) Fl127 (any_of HT_.out (by kernel_rfl)) ?_
    refine pun_ (i := 25) (N := some 124) Fl128 (any_of HT_.out (by kernel_rfl)) ?_
    refine pun_ (i := 26) (N := some 125) Fl129 (any_of HT_.out (by kernel_rfl)) ?_
    refine pun_ (i := 27) (N := some 126) Fl130 (any_of HT_.out (by kernel_rfl)) ?_
    refine pun_ (i := 28) (N := some 127) Fl131 (any_of HT_.out (by kernel_rfl)) ?_
    refine pun_ (i := 29) (N := some 128) Fl132 (any_of HT_.out (by kernel_rfl)) ?_
    refine pun_ (i := 30) (N := some 129) Fl133 (any_of HT_.out (by kernel_rfl)) ?_
    refine pun_ (i := 31) (N := some 130) Fl134 (any_of HT_.out (by kernel_rfl)) ?_
    refine pun_ (i := 32) (N := some 131) Fl135 (any_of HT_.out (by kernel_rfl)) ?_
    refine pun_ (i := 33) (N := some 132) Fl136 (any_of HT_.out (by kernel_rfl)) ?_
    refine pun_ (i := 34) (N := some 133) Fl137 (any_of HT_.out (by kernel_rfl)) ?_
    refine pun_ (i := 35) (N := some 134) Fl119 (any_of HT_.out (by kernel_rfl)) ?_
    refine pun_ (i := 36) (N := some 135) Fl120 (any_of HT_.out (by kernel_rfl)) ?_
    refine pun_ (i := 37) (N := some 136) Fl121 (any_of HT_.out (by kernel_rfl)) ?_
    refine pur_ (i := 38) (N := some 137) Fl122 (any_of HT_.out (by kernel_rfl)) ?_
    refine done_ (done_of HT_.out (by kernel_rfl)) ?_
    try go_wp2
    go_meet
    case rel => exact ⟨_, (true), (by first | rfl | (simp; done) | (simp [*]; done)), H', ⟨by have := HK1.out; first | omega | exact Nat.le_refl _⟩, ⟨rp_ HO_10.out⟩, ⟨vp_ HO_378002.out⟩, ⟨vp_ HO_384002.out⟩, ⟨rp_ HO413.out⟩, ⟨rp_ HO420.out⟩, ⟨hp_ BK371.out⟩, ⟨hp_ BK377.out⟩, ⟨hp_ BK383.out⟩, ⟨hp_ BK388.out⟩, ⟨hp_ BK394.out⟩, ⟨hp_ BK415.out⟩, ⟨hp_ BK422.out⟩, ⟨bp_⟩⟩
 case rest =>
  clear HC54
  try clear c2
  try clear p2
  try clear p6
  try clear c9
  try clear c26
  try clear c27
  try clear p64
  try clear c97
  try clear c97b0
  try clear c97b1
  obtain ⟨kq, x137_53, rfl, HA, HJ53, HO_10, HO_378002, HO_384002, HO_416002, HO_423002, BK371, BK377, BK383, BK388, BK394, BK415, BK422, HB⟩ := hcut
  cases kq with
  | zero => exact absurd HA.out (by simp [chequerlaw03_RectParts.j1])
  | succ kj53 =>
   have H := HA.out
   clear HA
   simp only [chequerlaw03_RectParts.j1] at H
   by_cases c129 : x137_53 = true
   · subst c129
     have H1 : (some false) = some r := by rw [if_pos rfl] at H; exact H
     clear H
     have H := H1
     clear H1
     obtain rfl := Option.some.inj H
     go_wp2
     go_ret
     exact ⟨by first | rfl | (simp [errW_none, errW_some] <;> rfl) | (simp [*, errW_none, errW_some] <;> rfl), bp_⟩
   · replace c129 := Bool.eq_false_iff.mpr c129
     subst c129
     have H1 : (if t421 = true then ((chequerlaw03_of.f t372 t373 t374).bind fun bt441 => ((chequerlaw03_of.f t416 t417 t418).bind fun bt446 => ((rect_Matrix_Has.f kj53 bt441.1 bt441.2.1 bt441.2.2 bt446.1 bt446.2.1 bt446.2.2 ((rd_T25 y389 x11_1).f0) ((rd_T25 y389 x11_1).f1)).bind fun t451 => (if t451 = true then (chequerlaw03_RectParts.l0 kj53 y389 (wrap64 (x11_1 + 1)) t372 t373 t374 t378 t379 t380) else (some false))))) else (chequerlaw03_RectParts.l0 kj53 y389 (wrap64 (x11_1 + 1)) t372 t373 t374 t378 t379 t380)) = some r := by rw [if_neg (show ¬ (false = true) by decide)] at H; exact H
     clear H
     have H := H1
     clear H1
     have HP130 := Aside0.mk H
     clear H
     go_upto_region 15 with (fail)
     have H := HP130.out
     clear HP130
     by_cases c131 : t421 = true
     · subst c131
       have H1 : ((chequerlaw03_of.f t372 t373 t374).bind fun bt441 => ((chequerlaw03_of.f t416 t417 t418).bind fun bt446 => ((rect_Matrix_Has.f kj53 bt441.1 bt441.2.1 bt441.2.2 bt446.1 bt446.2.1 bt446.2.2 ((rd_T25 y389 x11_1).f0) ((rd_T25 y389 x11_1).f1)).bind fun t451 => (if t451 = true then (chequerlaw03_RectParts.l0 kj53 y389 (wrap64 (x11_1 + 1)) t372 t373 t374 t378 t379 t380) else (some false))))) = some r := by rw [if_pos rfl] at H; exact H
       clear H
       have H := H1
       clear H1
       replace H := Option.bind_eq_some_iff.mp H
       obtain ⟨⟨t441, t442, t443⟩, A1320, H⟩ := H
       replace H : ((chequerlaw03_of.f t416 t417 t418).bind fun bt446 => ((rect_Matrix_Has.f kj53 t441 t442 t443 bt446.1 bt446.2.1 bt446.2.2 ((rd_T25 y389 x11_1).f0) ((rd_T25 y389 x11_1).f1)).bind fun t451 => (if t451 = true then (chequerlaw03_RectParts.l0 kj53 y389 (wrap64 (x11_1 + 1)) t372 t373 t374 t378 t379 t380) else (some false)))) = some r := H
       have A132 := Aside0.mk A1320
       clear A1320
       replace H := Option.bind_eq_some_iff.mp H
       obtain ⟨⟨t446, t447, t448⟩, A1330, H⟩ := H
       replace H : ((rect_Matrix_Has.f kj53 t441 t442 t443 t446 t447 t448 ((rd_T25 y389 x11_1).f0) ((rd_T25 y389 x11_1).f1)).bind fun t451 => (if t451 = true then (chequerlaw03_RectParts.l0 kj53 y389 (wrap64 (x11_1 + 1)) t372 t373 t374 t378 t379 t380) else (some false))) = some r := H
       have A133 := Aside0.mk A1330
       clear A1330
       replace H := Option.bind_eq_some_iff.mp H
       obtain ⟨t451, A1340, H⟩ := H
       replace H : (if t451 = true then (chequerlaw03_RectParts.l0 kj53 y389 (wrap64 (x11_1 + 1)) t372 t373 t374 t378 t379 t380) else (some false)) = some r := H
       have A134 := Aside0.mk A1340
       clear A1340
       by_cases c135 : t451 = true
       · subst c135
         have H1 : (chequerlaw03_RectParts.l0 kj53 y389 (wrap64 (x11_1 + 1)) t372 t373 t374 t378 t379 t380) = some r := by rw [if_pos rfl] at H; exact H
         clear H
         have H := H1
         clear H1
         have H' := Aside0.mk H
         clear H
         try go_wp2
         (try (rw [drewN_self wc]; generalize hq_ : World.drewN wc _ = wc; have n0_ := Aside0.mk (qrp_ hq_ HO_10.out); have n1_ := Aside0.mk (qvp_ hq_ HO_378002.out); have n2_ := Aside0.mk (qvp_ hq_ HO_384002.out); have n3_ := Aside0.mk (qrp_ hq_ HO_416002.out); have n4_ := Aside0.mk (qrp_ hq_ HO_423002.out); have n5_ := Aside0.mk (qhp_ hq_ BK371.out); have n6_ := Aside0.mk (qhp_ hq_ BK377.out); have n7_ := Aside0.mk (qhp_ hq_ BK383.out); have n8_ := Aside0.mk (qhp_ hq_ BK388.out); have n9_ := Aside0.mk (qhp_ hq_ BK394.out); have n10_ := Aside0.mk (qhp_ hq_ BK415.out); have n11_ := Aside0.mk (qhp_ hq_ BK422.out); have n12_ : Aside0 (Below w.heap.size w wc) := ⟨qbp_ hq_⟩; clear HO_10 HO_378002 HO_384002 HO_416002 HO_423002 BK371 BK377 BK383 BK388 BK394 BK415 BK422 HB hq_; have HO_10 := n0_; have HO_378002 := n1_; have HO_384002 := n2_; have HO_416002 := n3_; have HO_423002 := n4_; have BK371 := n5_; have BK377 := n6_; have BK383 := n7_; have BK388 := n8_; have BK394 := n9_; have BK415 := n10_; have BK422 := n11_; have HB := n12_; clear n0_ n1_ n2_ n3_ n4_ n5_ n6_ n7_ n8_ n9_ n10_ n11_ n12_))
         replace HO_10 := Aside0.mk (Kd.R_drew HO_10.out)
         replace HO_378002 := Aside0.mk (Kd.V_drew HO_378002.out)
         replace HO_384002 := Aside0.mk (Kd.V_drew HO_384002.out)
         replace HO_416002 := Aside0.mk (Kd.R_drew HO_416002.out)
         replace HO_423002 := Aside0.mk (Kd.R_drew HO_423002.out)
         replace BK371 := Aside0.mk (blk_drew BK371.out)
         replace BK377 := Aside0.mk (blk_drew BK377.out)
         replace BK383 := Aside0.mk (blk_drew BK383.out)
         replace BK388 := Aside0.mk (blk_drew BK388.out)
         replace BK394 := Aside0.mk (blk_drew BK394.out)
         replace BK415 := Aside0.mk (blk_drew BK415.out)
         replace BK422 := Aside0.mk (blk_drew BK422.out)
         replace HB := Aside0.mk (below_drew1 HB.out)
         refine start_ (n := 13) (S := fun w' => w'.cell? ⟨gb377, 0, none⟩ = some (.int .i64 t372) ∧ w'.cell? ⟨gb377, 1, none⟩ = some (.int .i64 t373) ∧ w'.cell? ⟨gb377, 2, none⟩ = some (.slice Ao21 t374.length co21) ∧ w'.cell? ⟨gb394, 0, none⟩ = some (.int .i64 ((rd_T25 y389 x11_1).f0)) ∧ w'.cell? ⟨gb394, 1, none⟩ = some (.int .i64 ((rd_T25 y389 x11_1).f1)) ∧ w'.cell? ⟨gb394, 2, none⟩ = some (.int .i64 ((rd_T25 y389 x11_1).f2)) ∧ w'.cell? ⟨gb394, 3, none⟩ = some (.int .i64 ((rd_T25 y389 x11_1).f3)) ∧ w'.cell? ⟨gb422, 0, none⟩ = some (.int .i64 t416) ∧ w'.cell? ⟨gb422, 1, none⟩ = some (.int .i64 t417) ∧ w'.cell? ⟨gb422, 2, none⟩ = some (.slice Ao96 t418.length co96)) (ds := []) Fl138 (by kernel_rfl) rfl rfl ⟨(blk_cell BK377.out 0).trans rfl, (blk_cell BK377.out 1).trans rfl, (blk_cell BK377.out 2).trans rfl, (blk_cell BK394.out 0).trans rfl, (blk_cell BK394.out 1).trans rfl, (blk_cell BK394.out 2).trans rfl, (blk_cell BK394.out 3).trans rfl, (blk_cell BK422.out 0).trans rfl, (blk_cell BK422.out 1).trans rfl, (blk_cell BK422.out 2).trans rfl⟩ (fun hHeld => ?_); refine with_tabW chequerlaw03_RectParts.tab15 chequerlaw03_RectParts.bits15 (fun HT_ HW_ => ?_)
         generalize wc.drew = w136 at HO_10 HO_378002 HO_384002 HO_416002 HO_423002 BK371 BK377 BK383 BK388 BK394 BK415 BK422 HB hHeld ⊢
         refine pur_ (i := 0) (N := some 138) Fl139 (any_of HT_.out (by kernel_rfl)) ?_
         refine pur_ (i := 1) (N := some 139) Fl140 (any_of HT_.out (by kernel_rfl)) ?_
         refine pur_ (i := 6) (N := some 144) Fl150 (any_of HT_.out (by kernel_rfl)) ?_
         refine pur_ (i := 8) (N := some 146) Fl151 (any_of HT_.out (by kernel_rfl)) ?_
         refine take_ (i := 2) (N := some 140) (v := ?_) (a' := ?_) Fl153 rfl rfl (take_ofW HT_.out HW_.out (by kernel_rfl)) (fun _ _ _ h => h) (Or.inl ⟨by rfl, ?_⟩) hHeld ?_ ?_
         rotate_left
         · rintro w' ⟨s0, s1, s2, s3, s4, s5, s6, s7, s8, s9⟩
           go_simp
           with_reducible rfl
         rotate_left
         · simp only [Act.put, List.setIfInBounds_toArray, List.set_cons_zero, List.set_cons_succ, i64_w, i32_w]
           rfl
         refine take_ (i := 4) (N := some 142) (v := ?_) (a' := ?_) Fl154 rfl rfl (take_ofW HT_.out HW_.out (by kernel_rfl)) (fun _ _ _ h => h) (Or.inl ⟨by rfl, ?_⟩) hHeld ?_ ?_
         rotate_left
         · rintro w' ⟨s0, s1, s2, s3, s4, s5, s6, s7, s8, s9⟩
           go_simp
           with_reducible rfl
         rotate_left
         · simp only [Act.put, List.setIfInBounds_toArray, List.set_cons_zero, List.set_cons_succ, i64_w, i32_w]
           rfl
         refine take_ (i := 7) (N := some 145) (v := ?_) (a' := ?_) Fl155 rfl rfl (take_ofW HT_.out HW_.out (by kernel_rfl)) (fun _ _ _ h => h) (Or.inl ⟨by rfl, ?_⟩) hHeld ?_ ?_
         rotate_left
         · rintro w' ⟨s0, s1, s2, s3, s4, s5, s6, s7, s8, s9⟩
           go_simp
           with_reducible rfl
         rotate_left
         · simp only [Act.put, List.setIfInBounds_toArray, List.set_cons_zero, List.set_cons_succ, i64_w, i32_w]
           rfl
         refine take_ (i := 9) (N := some 147) (v := ?_) (a' := ?_) Fl156 rfl rfl (take_ofW HT_.out HW_.out (by kernel_rfl)) (fun _ _ _ h => h) (Or.inl ⟨by rfl, ?_⟩) hHeld ?_ ?_
         rotate_left
         · rintro w' ⟨s0, s1, s2, s3, s4, s5, s6, s7, s8, s9⟩
           go_simp
           with_reducible rfl
         rotate_left
         · simp only [Act.put, List.setIfInBounds_toArray, List.set_cons_zero, List.set_cons_succ, i64_w, i32_w]
           rfl
         refine one_ (i := 3) (N := some 141) Fl157 rfl rfl (one_of HT_.out (by kernel_rfl)) (by decide) (fun K hK => ?_)
         refine goes_ Try.func13 (by kernel_rfl) rfl #[.agg #[.int .i64 t372, .int .i64 t373, .slice Ao21 t374.length co21]] (by rfl) rfl rfl (by (try simp only [List.map_toArray, List.map_cons, List.map_nil]); first | done | rfl | (simp only [List.length_drop, List.length_take]; rfl)) ?_
         with_reducible refine (chequerlaw03_of.calls t372 t373 (fun k_ => (some k_ ≠ (.slice (some ad393) y389.length co55 : Value).ownBlock ∧ (some k_ ≠ (.slice Ao81 t411.length co81 : Value).ownBlock ∧ (some k_ ≠ (.slice Ao96 t418.length co96 : Value).ownBlock ∧ (k_ ≠ gb371 ∧ (k_ ≠ gb377 ∧ (k_ ≠ gb383 ∧ (k_ ≠ gb388 ∧ (k_ ≠ gb394 ∧ (k_ ≠ gb415 ∧ k_ ≠ gb422)))))))))) _ _ t374 t441 t442 t443 _ ?side1 A132.out).mono ?_
         (case side1 => exact HO_378002.out)
         rintro e w137 ⟨v444, rfl, ho0, hb⟩
         refine ⟨_, rfl, ?_⟩
         replace HO_378002 := Aside0.mk (Kd.V_below (vp_ HO_378002.out) hb)
         replace HO_384002 := Aside0.mk (Kd.V_below (vp_ HO_384002.out) hb)
         have HO445 := Aside0.mk (Kd.V_lower (Kd.V_mono (ok' := fun k_ => some k_ ≠ (.slice (some ad393) y389.length co55 : Value).ownBlock ∧ some k_ ≠ (.slice Ao81 t411.length co81 : Value).ownBlock ∧ some k_ ≠ (.slice Ao96 t418.length co96 : Value).ownBlock ∧ k_ ≠ gb371 ∧ k_ ≠ gb377 ∧ k_ ≠ gb383 ∧ k_ ≠ gb388 ∧ k_ ≠ gb394 ∧ k_ ≠ gb415 ∧ k_ ≠ gb422) ho0 (fun k_ hk_ => ⟨Or.elim hk_ (fun hs_ => hs_.1) (fun hn_ => (Kd.fresh' (Kd.R_lt (rp_ HO_10.out)) k_ hn_)), Or.elim hk_ (fun hs_ => hs_.2.1) (fun hn_ => (Kd.fresh' (Kd.R_lt (rp_ HO_416002.out)) k_ hn_)), Or.elim hk_ (fun hs_ => hs_.2.2.1) (fun hn_ => (Kd.fresh' (Kd.R_lt (rp_ HO_423002.out)) k_ hn_)), Or.elim hk_ (fun hs_ => hs_.2.2.2.1) (fun hn_ => (Kd.freshB (g := gb371) (o := .cells #[.int .i64 a2_0, .int .i64 a2_1, .int .i64 a2_2, .int .i64 a2_3] 25 (0, 0)) (hp_ BK371.out) k_ hn_)), Or.elim hk_ (fun hs_ => hs_.2.2.2.2.1) (fun hn_ => (Kd.freshB (g := gb377) (o := .cells #[.int .i64 t372, .int .i64 t373, .slice Ao21 t374.length co21] 24 (0, 0)) (hp_ BK377.out) k_ hn_)), Or.elim hk_ (fun hs_ => hs_.2.2.2.2.2.1) (fun hn_ => (Kd.freshB (g := gb383) (o := .cells #[.int .i64 t378, .int .i64 t379, .slice Ao29 t380.length co29] 24 (0, 0)) (hp_ BK383.out) k_ hn_)), Or.elim hk_ (fun hs_ => hs_.2.2.2.2.2.2.1) (fun hn_ => (Kd.freshB (g := gb388) (o := .cells #[.int .i64 (wrap64 (t384 - 1)), .int .i64 (wrap64 (t385 - 1)), .int .i64 (wrap64 (t386 - 1)), .int .i64 (wrap64 (t387 - 1))] 25 (0, 0)) (hp_ BK388.out) k_ hn_)), Or.elim hk_ (fun hs_ => hs_.2.2.2.2.2.2.2.1) (fun hn_ => (Kd.freshB (g := gb394) (o := .cells #[.int .i64 ((rd_T25 y389 x11_1).f0), .int .i64 ((rd_T25 y389 x11_1).f1), .int .i64 ((rd_T25 y389 x11_1).f2), .int .i64 ((rd_T25 y389 x11_1).f3)] 25 (0, 0)) (hp_ BK394.out) k_ hn_)), Or.elim hk_ (fun hs_ => hs_.2.2.2.2.2.2.2.2.1) (fun hn_ => (Kd.freshB (g := gb415) (o := .cells #[.int .i64 t409, .int .i64 t410, .slice Ao81 t411.length co81] 32 (0, 0)) (hp_ BK415.out) k_ hn_)), Or.elim hk_ (fun hs_ => hs_.2.2.2.2.2.2.2.2.2) (fun hn_ => (Kd.freshB (g := gb422) (o := .cells #[.int .i64 t416, .int .i64 t417, .slice Ao96 t418.length co96] 24 (0, 0)) (hp_ BK422.out) k_ hn_))⟩)) (below_size bp_))
         replace HO_10 := Aside0.mk (Kd.R_below (rp_ HO_10.out) hb)
         replace HO_416002 := Aside0.mk (Kd.R_below (rp_ HO_416002.out) hb)
         replace HO_423002 := Aside0.mk (Kd.R_below (rp_ HO_423002.out) hb)
         replace BK371 := Aside0.mk (blk_below (hp_ BK371.out) hb)
         replace BK377 := Aside0.mk (blk_below (hp_ BK377.out) hb)
         replace BK383 := Aside0.mk (blk_below (hp_ BK383.out) hb)
         replace BK388 := Aside0.mk (blk_below (hp_ BK388.out) hb)
         replace BK394 := Aside0.mk (blk_below (hp_ BK394.out) hb)
         replace BK415 := Aside0.mk (blk_below (hp_ BK415.out) hb)
         replace BK422 := Aside0.mk (blk_below (hp_ BK422.out) hb)
         replace HB := Aside0.mk (below_step bp_ hb)
         (try clear hb)
         (try clear hb2)
         (try clear hk)
         (try clear hi)
         (try clear ho0)
         refine hK.out _ _ ⟨(blk_cell BK377.out 0).trans rfl, (blk_cell BK377.out 1).trans rfl, (blk_cell BK377.out 2).trans rfl, (blk_cell BK394.out 0).trans rfl, (blk_cell BK394.out 1).trans rfl, (blk_cell BK394.out 2).trans rfl, (blk_cell BK394.out 3).trans rfl, (blk_cell BK422.out 0).trans rfl, (blk_cell BK422.out 1).trans rfl, (blk_cell BK422.out 2).trans rfl⟩ (fun hHeld => ?_)
         clear hK K
         refine norm_ (a' := ?_) ?_ ?_
         rotate_left
         · show Act.put _ (some 141) _ = _
           simp only [Act.put, List.setIfInBounds_toArray, List.set_cons_zero, List.set_cons_succ, i64_w, i32_w]
           rfl
         refine one_ (i := 5) (N := some 143) Fl142 rfl rfl (one_of HT_.out (by kernel_rfl)) (by decide) (fun K hK => ?_)
         refine goes_ Try.func13 (by kernel_rfl) rfl #[.agg #[.int .i64 t416, .int .i64 t417, .slice Ao96 t418.length co96]] (by rfl) rfl rfl (by (try simp only [List.map_toArray, List.map_cons, List.map_nil]); first | done | rfl | (simp only [List.length_drop, List.length_take]; rfl)) ?_
         with_reducible refine (chequerlaw03_of.calls t416 t417 (fun k_ => some k_ = (.slice Ao96 t418.length co96 : Value).ownBlock) _ _ t418 t446 t447 t448 _ ?side1 A133.out).mono ?_
         (case side1 => exact Kd.R_V (Kd.R_tight rfl (Kd.R_types (Kd.R_types (Kd.R_types (Kd.R_types (Kd.R_types (Kd.R_types (Kd.R_types (Kd.R_apart' (HO_423002.out) (Kd.R_typed HO_10.out) (by decide)) BK371.out (by decide)) BK377.out (by decide)) BK383.out (by decide)) BK388.out (by decide)) BK394.out (by decide)) BK415.out (by decide)) BK422.out (by decide))))
         rintro e w138 ⟨v449, rfl, ho0, hb⟩
         refine ⟨_, rfl, ?_⟩
         replace HO_378002 := Aside0.mk (Kd.V_below (vp_ HO_378002.out) hb)
         replace HO_384002 := Aside0.mk (Kd.V_below (vp_ HO_384002.out) hb)
         replace HO445 := Aside0.mk (Kd.V_below (vp_ HO445.out) hb)
         have HO450 := Aside0.mk (Kd.V_lower (Kd.V_mono (ok' := fun k_ => some k_ ≠ (.slice (some ad393) y389.length co55 : Value).ownBlock ∧ some k_ ≠ (.slice Ao81 t411.length co81 : Value).ownBlock ∧ k_ ≠ gb371 ∧ k_ ≠ gb377 ∧ k_ ≠ gb383 ∧ k_ ≠ gb388 ∧ k_ ≠ gb394 ∧ k_ ≠ gb415 ∧ k_ ≠ gb422) ho0 (fun k_ hk_ => ⟨Or.elim hk_ (fun hs_ => ((Kd.R_types (Kd.R_types (Kd.R_types (Kd.R_types (Kd.R_types (Kd.R_types (Kd.R_types (Kd.R_apart' (HO_423002.out) (Kd.R_typed HO_10.out) (by decide)) BK371.out (by decide)) BK377.out (by decide)) BK383.out (by decide)) BK388.out (by decide)) BK394.out (by decide)) BK415.out (by decide)) BK422.out (by decide)).1 k_ hs_.symm).1.1.1.1.1.1.1.2) (fun hn_ => (Kd.fresh' (Kd.R_lt (rp_ HO_10.out)) k_ hn_)), Or.elim hk_ (fun hs_ => ((Kd.R_types (Kd.R_types (Kd.R_types (Kd.R_types (Kd.R_types (Kd.R_types (Kd.R_types (Kd.R_apart' (HO_423002.out) (Kd.R_typed HO_10.out) (by decide)) BK371.out (by decide)) BK377.out (by decide)) BK383.out (by decide)) BK388.out (by decide)) BK394.out (by decide)) BK415.out (by decide)) BK422.out (by decide)).1 k_ hs_.symm).1.1.1.1.1.1.1.1) (fun hn_ => (Kd.fresh' (Kd.R_lt (rp_ HO_416002.out)) k_ hn_)), Or.elim hk_ (fun hs_ => ((Kd.R_types (Kd.R_types (Kd.R_types (Kd.R_types (Kd.R_types (Kd.R_types (Kd.R_types (Kd.R_apart' (HO_423002.out) (Kd.R_typed HO_10.out) (by decide)) BK371.out (by decide)) BK377.out (by decide)) BK383.out (by decide)) BK388.out (by decide)) BK394.out (by decide)) BK415.out (by decide)) BK422.out (by decide)).1 k_ hs_.symm).1.1.1.1.1.1.2) (fun hn_ => (Kd.freshB (g := gb371) (o := .cells #[.int .i64 a2_0, .int .i64 a2_1, .int .i64 a2_2, .int .i64 a2_3] 25 (0, 0)) (hp_ BK371.out) k_ hn_)), Or.elim hk_ (fun hs_ => ((Kd.R_types (Kd.R_types (Kd.R_types (Kd.R_types (Kd.R_types (Kd.R_types (Kd.R_types (Kd.R_apart' (HO_423002.out) (Kd.R_typed HO_10.out) (by decide)) BK371.out (by decide)) BK377.out (by decide)) BK383.out (by decide)) BK388.out (by decide)) BK394.out (by decide)) BK415.out (by decide)) BK422.out (by decide)).1 k_ hs_.symm).1.1.1.1.1.2) (fun hn_ => (Kd.freshB (g := gb377) (o := .cells #[.int .i64 t372, .int .i64 t373, .slice Ao21 t374.length co21] 24 (0, 0)) (hp_ BK377.out) k_ hn_)), Or.elim hk_ (fun hs_ => ((Kd.R_types (Kd.R_types (Kd.R_types (Kd.R_types (Kd.R_types (Kd.R_types (Kd.R_types (Kd.R_apart' (HO_423002.out) (Kd.R_typed HO_10.out) (by decide)) BK371.out (by decide)) BK377.out (by decide)) BK383.out (by decide)) BK388.out (by decide)) BK394.out (by decide)) BK415.out (by decide)) BK422.out (by decide)).1 k_ hs_.symm).1.1.1.1.2) (fun hn_ => (Kd.freshB (g := gb383) (o := .cells #[.int .i64 t378, .int .i64 t379, .slice Ao29 t380.length co29] 24 (0, 0)) (hp_ BK383.out) k_ hn_)), Or.elim hk_ (fun hs_ => ((Kd.R_types (Kd.R_types (Kd.R_types (Kd.R_types (Kd.R_types (Kd.R_types (Kd.R_types (Kd.R_apart' (HO_423002.out) (Kd.R_typed HO_10.out) (by decide)) BK371.out (by decide)) BK377.out (by decide)) BK383.out (by decide)) BK388.out (by decide)) BK394.out (by decide)) BK415.out (by decide)) BK422.out (by decide)).1 k_ hs_.symm).1.1.1.2) (fun hn_ => (Kd.freshB (g := gb388) (o := .cells #[.int .i64 (wrap64 (t384 - 1)), .int .i64 (wrap64 (t385 - 1)), .int .i64 (wrap64 (t386 - 1)), .int .i64 (wrap64 (t387 - 1))] 25 (0, 0)) (hp_ BK388.out) k_ hn_)), Or.elim hk_ (fun hs_ => ((Kd.R_types (Kd.R_types (Kd.R_types (Kd.R_types (Kd.R_types (Kd.R_types (Kd.R_types (Kd.R_apart' (HO_423002.out) (Kd.R_typed HO_10.out) (by decide)) BK371.out (by decide)) BK377.out (by decide)) BK383.out (by decide)) BK388.out (by decide)) BK394.out (by decide)) BK415.out (by decide)) BK422.out (by decide)).1 k_ hs_.symm).1.1.2) (fun hn_ => (Kd.freshB (g := gb394) (o := .cells #[.int .i64 ((rd_T25 y389 x11_1).f0), .int .i64 ((rd_T25 y389 x11_1).f1), .int .i64 ((rd_T25 y389 x11_1).f2), .int .i64 ((rd_T25 y389 x11_1).f3)] 25 (0, 0)) (hp_ BK394.out) k_ hn_)), Or.elim hk_ (fun hs_ => ((Kd.R_types (Kd.R_types (Kd.R_types (Kd.R_types (Kd.R_types (Kd.R_types (Kd.R_types (Kd.R_apart' (HO_423002.out) (Kd.R_typed HO_10.out) (by decide)) BK371.out (by decide)) BK377.out (by decide)) BK383.out (by decide)) BK388.out (by decide)) BK394.out (by decide)) BK415.out (by decide)) BK422.out (by decide)).1 k_ hs_.symm).1.2) (fun hn_ => (Kd.freshB (g := gb415) (o := .cells #[.int .i64 t409, .int .i64 t410, .slice Ao81 t411.length co81] 32 (0, 0)) (hp_ BK415.out) k_ hn_)), Or.elim hk_ (fun hs_ => ((Kd.R_types (Kd.R_types (Kd.R_types (Kd.R_types (Kd.R_types (Kd.R_types (Kd.R_types (Kd.R_apart' (HO_423002.out) (Kd.R_typed HO_10.out) (by decide)) BK371.out (by decide)) BK377.out (by decide)) BK383.out (by decide)) BK388.out (by decide)) BK394.out (by decide)) BK415.out (by decide)) BK422.out (by decide)).1 k_ hs_.symm).2) (fun hn_ => (Kd.freshB (g := gb422) (o := .cells #[.int .i64 t416, .int .i64 t417, .slice Ao96 t418.length co96] 24 (0, 0)) (hp_ BK422.out) k_ hn_))⟩)) (below_size bp_))
         replace HO_10 := Aside0.mk (Kd.R_below (rp_ HO_10.out) hb)
         replace HO_416002 := Aside0.mk (Kd.R_below (rp_ HO_416002.out) hb)
         replace HO_423002 := Aside0.mk (Kd.R_below (rp_ HO_423002.out) hb)
         replace BK371 := Aside0.mk (blk_below (hp_ BK371.out) hb)
         replace BK377 := Aside0.mk (blk_below (hp_ BK377.out) hb)
         replace BK383 := Aside0.mk (blk_below (hp_ BK383.out) hb)
         replace BK388 := Aside0.mk (blk_below (hp_ BK388.out) hb)
         replace BK394 := Aside0.mk (blk_below (hp_ BK394.out) hb)
         replace BK415 := Aside0.mk (blk_below (hp_ BK415.out) hb)
         replace BK422 := Aside0.mk (blk_below (hp_ BK422.out) hb)
         replace HB := Aside0.mk (below_step bp_ hb)
         (try clear hb)
         (try clear hb2)
         (try clear hk)
         (try clear hi)
         (try clear ho0)
         obtain ⟨Ao139, co139, eo139⟩ := Kd.V_slice HO445.out
         (first | subst eo139 | (injection eo139 with f1_ f2_ f3_; have f4_ := f1_.symm; have f5_ := f3_.symm; clear f1_ f2_ f3_; subst f4_; subst f5_))
         obtain ⟨Ao140, co140, eo140⟩ := Kd.V_slice HO450.out
         (first | subst eo140 | (injection eo140 with f1_ f2_ f3_; have f4_ := f1_.symm; have f5_ := f3_.symm; clear f1_ f2_ f3_; subst f4_; subst f5_))
         refine hK.out _ _ ⟨(blk_cell BK377.out 0).trans rfl, (blk_cell BK377.out 1).trans rfl, (blk_cell BK377.out 2).trans rfl, (blk_cell BK394.out 0).trans rfl, (blk_cell BK394.out 1).trans rfl, (blk_cell BK394.out 2).trans rfl, (blk_cell BK394.out 3).trans rfl, (blk_cell BK422.out 0).trans rfl, (blk_cell BK422.out 1).trans rfl, (blk_cell BK422.out 2).trans rfl⟩ (fun hHeld => ?_)
         clear hK K
         refine norm_ (a' := ?_) ?_ ?_
         rotate_left
         · show Act.put _ (some 143) _ = _
           simp only [Act.put, List.setIfInBounds_toArray, List.set_cons_zero, List.set_cons_succ, i64_w, i32_w]
           rfl
         refine one_ (i := 10) (N := some 148) Fl144 rfl rfl (one_of HT_.out (by kernel_rfl)) (by decide) (fun K hK => ?_)
         refine goes_ Try.func23 (by kernel_rfl) rfl #[.agg #[.int .i64 t441, .int .i64 t442, .slice Ao139 t443.length co139], .agg #[.int .i64 t446, .int .i64 t447, .slice Ao140 t448.length co140], .int .i64 ((rd_T25 y389 x11_1).f0), .int .i64 ((rd_T25 y389 x11_1).f1)] (by rfl) rfl rfl (by (try simp only [List.map_toArray, List.map_cons, List.map_nil]); first | done | rfl | (simp only [List.length_drop, List.length_take]; rfl)) ?_
         with_reducible refine (rect_Matrix_Has.calls kj53 t441 t442 _ _ t443 t446 t447 _ _ t448 ((rd_T25 y389 x11_1).f0) ((rd_T25 y389 x11_1).f1) true _ ?side1 ?side2 ?side3 ?side4 A134.out).mono ?_
         (case side1 => exact cp_ (Kd.V_reads' HO445.out).2.2)
         (case side2 => exact (Kd.V_reads' HO445.out).2.1)
         (case side3 => exact cp_ (Kd.V_reads' HO450.out).2.2)
         (case side4 => exact (Kd.V_reads' HO450.out).2.1)
         rintro e w141 ⟨rfl, hb⟩
         refine ⟨_, rfl, ?_⟩
         replace HO_10 := Aside0.mk (Kd.R_below (rp_ HO_10.out) hb)
         replace HO_378002 := Aside0.mk (Kd.V_below (vp_ HO_378002.out) hb)
         replace HO_384002 := Aside0.mk (Kd.V_below (vp_ HO_384002.out) hb)
         replace HO_416002 := Aside0.mk (Kd.R_below (rp_ HO_416002.out) hb)
         replace HO_423002 := Aside0.mk (Kd.R_below (rp_ HO_423002.out) hb)
         replace HO445 := Aside0.mk (Kd.V_below (vp_ HO445.out) hb)
         replace HO450 := Aside0.mk (Kd.V_below (vp_ HO450.out) hb)
         replace BK371 := Aside0.mk (blk_below (hp_ BK371.out) hb)
         replace BK377 := Aside0.mk (blk_below (hp_ BK377.out) hb)
         replace BK383 := Aside0.mk (blk_below (hp_ BK383.out) hb)
         replace BK388 := Aside0.mk (blk_below (hp_ BK388.out) hb)
         replace BK394 := Aside0.mk (blk_below (hp_ BK394.out) hb)
         replace BK415 := Aside0.mk (blk_below (hp_ BK415.out) hb)
         replace BK422 := Aside0.mk (blk_below (hp_ BK422.out) hb)
         replace HB := Aside0.mk (below_step bp_ hb)
         (try clear hb)
         (try clear hb2)
         (try clear hk)
         (try clear hi)
         refine hK.out _ _ ⟨(blk_cell BK377.out 0).trans rfl, (blk_cell BK377.out 1).trans rfl, (blk_cell BK377.out 2).trans rfl, (blk_cell BK394.out 0).trans rfl, (blk_cell BK394.out 1).trans rfl, (blk_cell BK394.out 2).trans rfl, (blk_cell BK394.out 3).trans rfl, (blk_cell BK422.out 0).trans rfl, (blk_cell BK422.out 1).trans rfl, (blk_cell BK422.out 2).trans rfl⟩ (fun hHeld => ?_)
         clear hK K
         refine norm_ (a' := ?_) ?_ ?_
         rotate_left
         · show Act.put _ (some 148) _ = _
           simp only [Act.put, List.setIfInBounds_toArray, List.set_cons_zero, List.set_cons_succ, i64_w, i32_w]
           rfl
         refine pur_ (i := 11) (N := some 149) Fl145 (any_of HT_.out (by kernel_rfl)) ?_
         refine pur_ (i := 12) (N := some 150) Fl149 (any_of HT_.out (by kernel_rfl)) ?_
         refine done_ (done_of HT_.out (by kernel_rfl)) ?_
         try go_wp2
         go_roundg kj53
         case measure => have := HK1.out; have := HJ53.out; omega
         case rel => exact ⟨(wrap64 (x11_1 + 1)), (by first | rfl | (simp; done) | (simp [*]; done)), H', ⟨by have := HK1.out; have := HJ53.out; omega⟩, ⟨by (with_reducible repeat (first | apply Kd.R_alloc | apply Kd.R_drewN | apply Kd.R_drew)); exact Kd.R_mono HO_10.out (fun _ hk => ⟨hk.1, hk.2.1⟩)⟩, ⟨by (with_reducible repeat (first | apply Kd.V_alloc | apply Kd.V_drewN | apply Kd.V_drew)); exact Kd.V_mono HO_378002.out (fun _ hk => ⟨hk.1, ⟨hk.2.2.2.1, ⟨hk.2.2.2.2.1, ⟨hk.2.2.2.2.2.1, hk.2.2.2.2.2.2.1⟩⟩⟩⟩)⟩, ⟨by (with_reducible repeat (first | apply Kd.V_alloc | apply Kd.V_drewN | apply Kd.V_drew)); exact Kd.V_mono HO_384002.out (fun _ hk => ⟨hk.1, ⟨hk.2.2.2.1, ⟨hk.2.2.2.2.1, ⟨hk.2.2.2.2.2.1, hk.2.2.2.2.2.2.1⟩⟩⟩⟩)⟩, ⟨hp_ BK371.out⟩, ⟨hp_ BK377.out⟩, ⟨hp_ BK383.out⟩, ⟨hp_ BK388.out⟩, ⟨bp_⟩⟩
       · replace c135 := Bool.eq_false_iff.mpr c135
         subst c135
         have H1 : (some false) = some r := by rw [if_neg (show ¬ (false = true) by decide)] at H; exact H
         clear H
         have H := H1
         clear H1
         obtain rfl := Option.some.inj H
         try go_wp2
         (try (rw [drewN_self wc]; generalize hq_ : World.drewN wc _ = wc; have n0_ := Aside0.mk (qrp_ hq_ HO_10.out); have n1_ := Aside0.mk (qvp_ hq_ HO_378002.out); have n2_ := Aside0.mk (qvp_ hq_ HO_384002.out); have n3_ := Aside0.mk (qrp_ hq_ HO_416002.out); have n4_ := Aside0.mk (qrp_ hq_ HO_423002.out); have n5_ := Aside0.mk (qhp_ hq_ BK377.out); have n6_ := Aside0.mk (qhp_ hq_ BK394.out); have n7_ := Aside0.mk (qhp_ hq_ BK422.out); have n8_ : Aside0 (Below w.heap.size w wc) := ⟨qbp_ hq_⟩; clear HO_10 HO_378002 HO_384002 HO_416002 HO_423002 BK377 BK394 BK422 HB hq_; have HO_10 := n0_; have HO_378002 := n1_; have HO_384002 := n2_; have HO_416002 := n3_; have HO_423002 := n4_; have BK377 := n5_; have BK394 := n6_; have BK422 := n7_; have HB := n8_; clear n0_ n1_ n2_ n3_ n4_ n5_ n6_ n7_ n8_))
         replace HO_10 := Aside0.mk (Kd.R_drew HO_10.out)
         replace HO_378002 := Aside0.mk (Kd.V_drew HO_378002.out)
         replace HO_384002 := Aside0.mk (Kd.V_drew HO_384002.out)
         replace HO_416002 := Aside0.mk (Kd.R_drew HO_416002.out)
         replace HO_423002 := Aside0.mk (Kd.R_drew HO_423002.out)
         replace BK377 := Aside0.mk (blk_drew BK377.out)
         replace BK394 := Aside0.mk (blk_drew BK394.out)
         replace BK422 := Aside0.mk (blk_drew BK422.out)
         replace HB := Aside0.mk (below_drew1 HB.out)
         refine start_ (n := 13) (S := fun w' => w'.cell? ⟨gb377, 0, none⟩ = some (.int .i64 t372) ∧ w'.cell? ⟨gb377, 1, none⟩ = some (.int .i64 t373) ∧ w'.cell? ⟨gb377, 2, none⟩ = some (.slice Ao21 t374.length co21) ∧ w'.cell? ⟨gb394, 0, none⟩ = some (.int .i64 ((rd_T25 y389 x11_1).f0)) ∧ w'.cell? ⟨gb394, 1, none⟩ = some (.int .i64 ((rd_T25 y389 x11_1).f1)) ∧ w'.cell? ⟨gb394, 2, none⟩ = some (.int .i64 ((rd_T25 y389 x11_1).f2)) ∧ w'.cell? ⟨gb394, 3, none⟩ = some (.int .i64 ((rd_T25 y389 x11_1).f3)) ∧ w'.cell? ⟨gb422, 0, none⟩ = some (.int .i64 t416) ∧ w'.cell? ⟨gb422, 1, none⟩ = some (.int .i64 t417) ∧ w'.cell? ⟨gb422, 2, none⟩ = some (.slice Ao96 t418.length co96)) (ds := []) Fl138 (by kernel_rfl) rfl rfl ⟨(blk_cell BK377.out 0).trans rfl, (blk_cell BK377.out 1).trans rfl, (blk_cell BK377.out 2).trans rfl, (blk_cell BK394.out 0).trans rfl, (blk_cell BK394.out 1).trans rfl, (blk_cell BK394.out 2).trans rfl, (blk_cell BK394.out 3).trans rfl, (blk_cell BK422.out 0).trans rfl, (blk_cell BK422.out 1).trans rfl, (blk_cell BK422.out 2).trans rfl⟩ (fun hHeld => ?_); refine with_tabW chequerlaw03_RectParts.tab15 chequerlaw03_RectParts.bits15 (fun HT_ HW_ => ?_)
         generalize wc.drew = w142 at HO_10 HO_378002 HO_384002 HO_416002 HO_423002 BK377 BK394 BK422 HB hHeld ⊢
         refine pur_ (i := 0) (N := some 138) Fl139 (any_of HT_.out (by kernel_rfl)) ?_
         refine pur_ (i := 1) (N := some 139) Fl140 (any_of HT_.out (by kernel_rfl)) ?_
         refine pur_ (i := 6) (N := some 144) Fl150 (any_of HT_.out (by kernel_rfl)) ?_
         refine pur_ (i := 8) (N := some 146) Fl151 (any_of HT_.out (by kernel_rfl)) ?_
         refine take_ (i := 2) (N := some 140) (v := ?_) (a' := ?_) Fl153 rfl rfl (take_ofW HT_.out HW_.out (by kernel_rfl)) (fun _ _ _ h => h) (Or.inl ⟨by rfl, ?_⟩) hHeld ?_ ?_
         rotate_left
         · rintro w' ⟨s0, s1, s2, s3, s4, s5, s6, s7, s8, s9⟩
           go_simp
           with_reducible rfl
         rotate_left
         · simp only [Act.put, List.setIfInBounds_toArray, List.set_cons_zero, List.set_cons_succ, i64_w, i32_w]
           rfl
         refine take_ (i := 4) (N := some 142) (v := ?_) (a' := ?_) Fl154 rfl rfl (take_ofW HT_.out HW_.out (by kernel_rfl)) (fun _ _ _ h => h) (Or.inl ⟨by rfl, ?_⟩) hHeld ?_ ?_
         rotate_left
         · rintro w' ⟨s0, s1, s2, s3, s4, s5, s6, s7, s8, s9⟩
           go_simp
           with_reducible rfl
         rotate_left
         · simp only [Act.put, List.setIfInBounds_toArray, List.set_cons_zero, List.set_cons_succ, i64_w, i32_w]
           rfl
         refine take_ (i := 7) (N := some 145) (v := ?_) (a' := ?_) Fl155 rfl rfl (take_ofW HT_.out HW_.out (by kernel_rfl)) (fun _ _ _ h => h) (Or.inl ⟨by rfl, ?_⟩) hHeld ?_ ?_
         rotate_left
         · rintro w' ⟨s0, s1, s2, s3, s4, s5, s6, s7, s8, s9⟩
           go_simp
           with_reducible rfl
         rotate_left
         · simp only [Act.put, List.setIfInBounds_toArray, List.set_cons_zero, List.set_cons_succ, i64_w, i32_w]
           rfl
         refine take_ (i := 9) (N := some 147) (v := ?_) (a' := ?_) Fl156 rfl rfl (take_ofW HT_.out HW_.out (by kernel_rfl)) (fun _ _ _ h => h) (Or.inl ⟨by rfl, ?_⟩) hHeld ?_ ?_
         rotate_left
         · rintro w' ⟨s0, s1, s2, s3, s4, s5, s6, s7, s8, s9⟩
           go_simp
           with_reducible rfl
         rotate_left
         · simp only [Act.put, List.setIfInBounds_toArray, List.set_cons_zero, List.set_cons_succ, i64_w, i32_w]
           rfl
         refine one_ (i := 3) (N := some 141) Fl157 rfl rfl (one_of HT_.out (by kernel_rfl)) (by decide) (fun K hK => ?_)
         refine goes_ Try.func13 (by kernel_rfl) rfl #[.agg #[.int .i64 t372, .int .i64 t373, .slice Ao21 t374.length co21]] (by rfl) rfl rfl (by (try simp only [List.map_toArray, List.map_cons, List.map_nil]); first | done | rfl | (simp only [List.length_drop, List.length_take]; rfl)) ?_
         with_reducible refine (chequerlaw03_of.calls t372 t373 (fun k_ => (some k_ ≠ (.slice (some ad393) y389.length co55 : Value).ownBlock ∧ (some k_ ≠ (.slice Ao81 t411.length co81 : Value).ownBlock ∧ (some k_ ≠ (.slice Ao96 t418.length co96 : Value).ownBlock ∧ (k_ ≠ gb371 ∧ (k_ ≠ gb377 ∧ (k_ ≠ gb383 ∧ (k_ ≠ gb388 ∧ (k_ ≠ gb394 ∧ (k_ ≠ gb415 ∧ k_ ≠ gb422)))))))))) _ _ t374 t441 t442 t443 _ ?side1 A132.out).mono ?_
         (case side1 => exact HO_378002.out)
         rintro e w143 ⟨v444, rfl, ho0, hb⟩
         refine ⟨_, rfl, ?_⟩
         replace HO_378002 := Aside0.mk (Kd.V_below (vp_ HO_378002.out) hb)
         replace HO_384002 := Aside0.mk (Kd.V_below (vp_ HO_384002.out) hb)
         have HO445 := Aside0.mk (Kd.V_lower (Kd.V_mono (ok' := fun k_ => some k_ ≠ (.slice (some ad393) y389.length co55 : Value).ownBlock ∧ some k_ ≠ (.slice Ao81 t411.length co81 : Value).ownBlock ∧ some k_ ≠ (.slice Ao96 t418.length co96 : Value).ownBlock ∧ k_ ≠ gb377 ∧ k_ ≠ gb394 ∧ k_ ≠ gb422) ho0 (fun k_ hk_ => ⟨Or.elim hk_ (fun hs_ => hs_.1) (fun hn_ => (Kd.fresh' (Kd.R_lt (rp_ HO_10.out)) k_ hn_)), Or.elim hk_ (fun hs_ => hs_.2.1) (fun hn_ => (Kd.fresh' (Kd.R_lt (rp_ HO_416002.out)) k_ hn_)), Or.elim hk_ (fun hs_ => hs_.2.2.1) (fun hn_ => (Kd.fresh' (Kd.R_lt (rp_ HO_423002.out)) k_ hn_)), Or.elim hk_ (fun hs_ => hs_.2.2.2.2.1) (fun hn_ => (Kd.freshB (g := gb377) (o := .cells #[.int .i64 t372, .int .i64 t373, .slice Ao21 t374.length co21] 24 (0, 0)) (hp_ BK377.out) k_ hn_)), Or.elim hk_ (fun hs_ => hs_.2.2.2.2.2.2.2.1) (fun hn_ => (Kd.freshB (g := gb394) (o := .cells #[.int .i64 ((rd_T25 y389 x11_1).f0), .int .i64 ((rd_T25 y389 x11_1).f1), .int .i64 ((rd_T25 y389 x11_1).f2), .int .i64 ((rd_T25 y389 x11_1).f3)] 25 (0, 0)) (hp_ BK394.out) k_ hn_)), Or.elim hk_ (fun hs_ => hs_.2.2.2.2.2.2.2.2.2) (fun hn_ => (Kd.freshB (g := gb422) (o := .cells #[.int .i64 t416, .int .i64 t417, .slice Ao96 t418.length co96] 24 (0, 0)) (hp_ BK422.out) k_ hn_))⟩)) (below_size bp_))
         replace HO_10 := Aside0.mk (Kd.R_below (rp_ HO_10.out) hb)
         replace HO_416002 := Aside0.mk (Kd.R_below (rp_ HO_416002.out) hb)
         replace HO_423002 := Aside0.mk (Kd.R_below (rp_ HO_423002.out) hb)
         replace BK377 := Aside0.mk (blk_below (hp_ BK377.out) hb)
         replace BK394 := Aside0.mk (blk_below (hp_ BK394.out) hb)
         replace BK422 := Aside0.mk (blk_below (hp_ BK422.out) hb)
         replace HB := Aside0.mk (below_step bp_ hb)
         (try clear hb)
         (try clear hb2)
         (try clear hk)
         (try clear hi)
         (try clear ho0)
         refine hK.out _ _ ⟨(blk_cell BK377.out 0).trans rfl, (blk_cell BK377.out 1).trans rfl, (blk_cell BK377.out 2).trans rfl, (blk_cell BK394.out 0).trans rfl, (blk_cell BK394.out 1).trans rfl, (blk_cell BK394.out 2).trans rfl, (blk_cell BK394.out 3).trans rfl, (blk_cell BK422.out 0).trans rfl, (blk_cell BK422.out 1).trans rfl, (blk_cell BK422.out 2).trans rfl⟩ (fun hHeld => ?_)
         clear hK K
         refine norm_ (a' := ?_) ?_ ?_
         rotate_left
         · show Act.put _ (some 141) _ = _
           simp only [Act.put, List.setIfInBounds_toArray, List.set_cons_zero, List.set_cons_succ, i64_w, i32_w]
           rfl
         refine one_ (i := 5) (N := some 143) Fl142 rfl rfl (one_of HT_.out (by kernel_rfl)) (by decide) (fun K hK => ?_)
         refine goes_ Try.func13 (by kernel_rfl) rfl #[.agg #[.int .i64 t416, .int .i64 t417, .slice Ao96 t418.length co96]] (by rfl) rfl rfl (by (try simp only [List.map_toArray, List.map_cons, List.map_nil]); first | done | rfl | (simp only [List.length_drop, List.length_take]; rfl)) ?_
         with_reducible refine (chequerlaw03_of.calls t416 t417 (fun k_ => some k_ = (.slice Ao96 t418.length co96 : Value).ownBlock) _ _ t418 t446 t447 t448 _ ?side1 A133.out).mono ?_
         (case side1 => exact Kd.R_V (Kd.R_tight rfl (Kd.R_types (Kd.R_types (Kd.R_types (Kd.R_apart' (HO_423002.out) (Kd.R_typed HO_10.out) (by decide)) BK377.out (by decide)) BK394.out (by decide)) BK422.out (by decide))))
         rintro e w144 ⟨v449, rfl, ho0, hb⟩
         refine ⟨_, rfl, ?_⟩
         replace HO_378002 := Aside0.mk (Kd.V_below (vp_ HO_378002.out) hb)
         replace HO_384002 := Aside0.mk (Kd.V_below (vp_ HO_384002.out) hb)
         replace HO445 := Aside0.mk (Kd.V_below (vp_ HO445.out) hb)
         have HO450 := Aside0.mk (Kd.V_lower (Kd.V_mono (ok' := fun k_ => some k_ ≠ (.slice (some ad393) y389.length co55 : Value).ownBlock ∧ some k_ ≠ (.slice Ao81 t411.length co81 : Value).ownBlock ∧ k_ ≠ gb377 ∧ k_ ≠ gb394 ∧ k_ ≠ gb422) ho0 (fun k_ hk_ => ⟨Or.elim hk_ (fun hs_ => ((Kd.R_types (Kd.R_types (Kd.R_types (Kd.R_apart' (HO_423002.out) (Kd.R_typed HO_10.out) (by decide)) BK377.out (by decide)) BK394.out (by decide)) BK422.out (by decide)).1 k_ hs_.symm).1.1.1.2) (fun hn_ => (Kd.fresh' (Kd.R_lt (rp_ HO_10.out)) k_ hn_)), Or.elim hk_ (fun hs_ => ((Kd.R_types (Kd.R_types (Kd.R_types (Kd.R_apart' (HO_423002.out) (Kd.R_typed HO_10.out) (by decide)) BK377.out (by decide)) BK394.out (by decide)) BK422.out (by decide)).1 k_ hs_.symm).1.1.1.1) (fun hn_ => (Kd.fresh' (Kd.R_lt (rp_ HO_416002.out)) k_ hn_)), Or.elim hk_ (fun hs_ => ((Kd.R_types (Kd.R_types (Kd.R_types (Kd.R_apart' (HO_423002.out) (Kd.R_typed HO_10.out) (by decide)) BK377.out (by decide)) BK394.out (by decide)) BK422.out (by decide)).1 k_ hs_.symm).1.1.2) (fun hn_ => (Kd.freshB (g := gb377) (o := .cells #[.int .i64 t372, .int .i64 t373, .slice Ao21 t374.length co21] 24 (0, 0)) (hp_ BK377.out) k_ hn_)), Or.elim hk_ (fun hs_ => ((Kd.R_types (Kd.R_types (Kd.R_types (Kd.R_apart' (HO_423002.out) (Kd.R_typed HO_10.out) (by decide)) BK377.out (by decide)) BK394.out (by decide)) BK422.out (by decide)).1 k_ hs_.symm).1.2) (fun hn_ => (Kd.freshB (g := gb394) (o := .cells #[.int .i64 ((rd_T25 y389 x11_1).f0), .int .i64 ((rd_T25 y389 x11_1).f1), .int .i64 ((rd_T25 y389 x11_1).f2), .int .i64 ((rd_T25 y389 x11_1).f3)] 25 (0, 0)) (hp_ BK394.out) k_ hn_)), Or.elim hk_ (fun hs_ => ((Kd.R_types (Kd.R_types (Kd.R_types (Kd.R_apart' (HO_423002.out) (Kd.R_typed HO_10.out) (by decide)) BK377.out (by decide)) BK394.out (by decide)) BK422.out (by decide)).1 k_ hs_.symm).2) (fun hn_ => (Kd.freshB (g := gb422) (o := .cells #[.int .i64 t416, .int .i64 t417, .slice Ao96 t418.length co96] 24 (0, 0)) (hp_ BK422.out) k_ hn_))⟩)) (below_size bp_))
         replace HO_10 := Aside0.mk (Kd.R_below (rp_ HO_10.out) hb)
         replace HO_416002 := Aside0.mk (Kd.R_below (rp_ HO_416002.out) hb)
         replace HO_423002 := Aside0.mk (Kd.R_below (rp_ HO_423002.out) hb)
         replace BK377 := Aside0.mk (blk_below (hp_ BK377.out) hb)
         replace BK394 := Aside0.mk (blk_below (hp_ BK394.out) hb)
         replace BK422 := Aside0.mk (blk_below (hp_ BK422.out) hb)
         replace HB := Aside0.mk (below_step bp_ hb)
         (try clear hb)
         (try clear hb2)
         (try clear hk)
         (try clear hi)
         (try clear ho0)
         obtain ⟨Ao145, co145, eo145⟩ := Kd.V_slice HO445.out
         (first | subst eo145 | (injection eo145 with f1_ f2_ f3_; have f4_ := f1_.symm; have f5_ := f3_.symm; clear f1_ f2_ f3_; subst f4_; subst f5_))
         obtain ⟨Ao146, co146, eo146⟩ := Kd.V_slice HO450.out
         (first | subst eo146 | (injection eo146 with f1_ f2_ f3_; have f4_ := f1_.symm; have f5_ := f3_.symm; clear f1_ f2_ f3_; subst f4_; subst f5_))
         refine hK.out _ _ ⟨(blk_cell BK377.out 0).trans rfl, (blk_cell BK377.out 1).trans rfl, (blk_cell BK377.out 2).trans rfl, (blk_cell BK394.out 0).trans rfl, (blk_cell BK394.out 1).trans rfl, (blk_cell BK394.out 2).trans rfl, (blk_cell BK394.out 3).trans rfl, (blk_cell BK422.out 0).trans rfl, (blk_cell BK422.out 1).trans rfl, (blk_cell BK422.out 2).trans rfl⟩ (fun hHeld => ?_)
         clear hK K
         refine norm_ (a' := ?_) ?_ ?_
         rotate_left
         · show Act.put _ (some 143) _ = _
           simp only [Act.put, List.setIfInBounds_toArray, List.set_cons_zero, List.set_cons_succ, i64_w, i32_w]
           rfl
         refine one_ (i := 10) (N := some 148) Fl144 rfl rfl (one_of HT_.out (by kernel_rfl)) (by decide) (fun K hK => ?_)
         refine goes_ Try.func23 (by kernel_rfl) rfl #[.agg #[.int .i64 t441, .int .i64 t442, .slice Ao145 t443.length co145], .agg #[.int .i64 t446, .int .i64 t447, .slice Ao146 t448.length co146], .int .i64 ((rd_T25 y389 x11_1).f0), .int .i64 ((rd_T25 y389 x11_1).f1)] (by rfl) rfl rfl (by (try simp only [List.map_toArray, List.map_cons, List.map_nil]); first | done | rfl | (simp only [List.length_drop, List.length_take]; rfl)) ?_
         with_reducible refine (rect_Matrix_Has.calls kj53 t441 t442 _ _ t443 t446 t447 _ _ t448 ((rd_T25 y389 x11_1).f0) ((rd_T25 y389 x11_1).f1) false _ ?side1 ?side2 ?side3 ?side4 A134.out).mono ?_
         (case side1 => exact cp_ (Kd.V_reads' HO445.out).2.2)
         (case side2 => exact (Kd.V_reads' HO445.out).2.1)
         (case side3 => exact cp_ (Kd.V_reads' HO450.out).2.2)
         (case side4 => exact (Kd.V_reads' HO450.out).2.1)
         rintro e w147 ⟨rfl, hb⟩
         refine ⟨_, rfl, ?_⟩
         replace HO_10 := Aside0.mk (Kd.R_below (rp_ HO_10.out) hb)
         replace HO_378002 := Aside0.mk (Kd.V_below (vp_ HO_378002.out) hb)
         replace HO_384002 := Aside0.mk (Kd.V_below (vp_ HO_384002.out) hb)
         replace HO_416002 := Aside0.mk (Kd.R_below (rp_ HO_416002.out) hb)
         replace HO_423002 := Aside0.mk (Kd.R_below (rp_ HO_423002.out) hb)
         replace HO445 := Aside0.mk (Kd.V_below (vp_ HO445.out) hb)
         replace HO450 := Aside0.mk (Kd.V_below (vp_ HO450.out) hb)
         replace BK377 := Aside0.mk (blk_below (hp_ BK377.out) hb)
         replace BK394 := Aside0.mk (blk_below (hp_ BK394.out) hb)
         replace BK422 := Aside0.mk (blk_below (hp_ BK422.out) hb)
         replace HB := Aside0.mk (below_step bp_ hb)
         (try clear hb)
         (try clear hb2)
         (try clear hk)
         (try clear hi)
         refine hK.out _ _ ⟨(blk_cell BK377.out 0).trans rfl, (blk_cell BK377.out 1).trans rfl, (blk_cell BK377.out 2).trans rfl, (blk_cell BK394.out 0).trans rfl, (blk_cell BK394.out 1).trans rfl, (blk_cell BK394.out 2).trans rfl, (blk_cell BK394.out 3).trans rfl, (blk_cell BK422.out 0).trans rfl, (blk_cell BK422.out 1).trans rfl, (blk_cell BK422.out 2).trans rfl⟩ (fun hHeld => ?_)
         clear hK K
         refine norm_ (a' := ?_) ?_ ?_
         rotate_left
         · show Act.put _ (some 148) _ = _
           simp only [Act.put, List.setIfInBounds_toArray, List.set_cons_zero, List.set_cons_succ, i64_w, i32_w]
           rfl
         refine pur_ (i := 11) (N := some 149) Fl145 (any_of HT_.out (by kernel_rfl)) ?_
         refine pur_ (i := 12) (N := some 150) Fl149 (any_of HT_.out (by kernel_rfl)) ?_
         refine done_ (done_of HT_.out (by kernel_rfl)) ?_
         try go_wp2
         go_ret
         exact ⟨by first | rfl | (simp [errW_none, errW_some] <;> rfl) | (simp [*, errW_none, errW_some] <;> rfl), bp_⟩
     · replace c131 := Bool.eq_false_iff.mpr c131
       subst c131
       have H1 : (chequerlaw03_RectParts.l0 kj53 y389 (wrap64 (x11_1 + 1)) t372 t373 t374 t378 t379 t380) = some r := by rw [if_neg (show ¬ (false = true) by decide)] at H; exact H
       clear H
       have H := H1
       clear H1
       have H' := Aside0.mk H
       clear H
       try go_wp2
       (try (rw [drewN_self wc]; generalize hq_ : World.drewN wc _ = wc; have n0_ := Aside0.mk (qrp_ hq_ HO_10.out); have n1_ := Aside0.mk (qvp_ hq_ HO_378002.out); have n2_ := Aside0.mk (qvp_ hq_ HO_384002.out); have n3_ := Aside0.mk (qrp_ hq_ HO_416002.out); have n4_ := Aside0.mk (qrp_ hq_ HO_423002.out); have n5_ := Aside0.mk (qhp_ hq_ BK371.out); have n6_ := Aside0.mk (qhp_ hq_ BK377.out); have n7_ := Aside0.mk (qhp_ hq_ BK383.out); have n8_ := Aside0.mk (qhp_ hq_ BK388.out); have n9_ := Aside0.mk (qhp_ hq_ BK394.out); have n10_ := Aside0.mk (qhp_ hq_ BK415.out); have n11_ := Aside0.mk (qhp_ hq_ BK422.out); have n12_ : Aside0 (Below w.heap.size w wc) := ⟨qbp_ hq_⟩; clear HO_10 HO_378002 HO_384002 HO_416002 HO_423002 BK371 BK377 BK383 BK388 BK394 BK415 BK422 HB hq_; have HO_10 := n0_; have HO_378002 := n1_; have HO_384002 := n2_; have HO_416002 := n3_; have HO_423002 := n4_; have BK371 := n5_; have BK377 := n6_; have BK383 := n7_; have BK388 := n8_; have BK394 := n9_; have BK415 := n10_; have BK422 := n11_; have HB := n12_; clear n0_ n1_ n2_ n3_ n4_ n5_ n6_ n7_ n8_ n9_ n10_ n11_ n12_))
       replace HO_10 := Aside0.mk (Kd.R_drew HO_10.out)
       replace HO_378002 := Aside0.mk (Kd.V_drew HO_378002.out)
       replace HO_384002 := Aside0.mk (Kd.V_drew HO_384002.out)
       replace HO_416002 := Aside0.mk (Kd.R_drew HO_416002.out)
       replace HO_423002 := Aside0.mk (Kd.R_drew HO_423002.out)
       replace BK371 := Aside0.mk (blk_drew BK371.out)
       replace BK377 := Aside0.mk (blk_drew BK377.out)
       replace BK383 := Aside0.mk (blk_drew BK383.out)
       replace BK388 := Aside0.mk (blk_drew BK388.out)
       replace BK394 := Aside0.mk (blk_drew BK394.out)
       replace BK415 := Aside0.mk (blk_drew BK415.out)
       replace BK422 := Aside0.mk (blk_drew BK422.out)
       replace HB := Aside0.mk (below_drew1 HB.out)
       refine start_ (n := 13) (S := fun w' => w'.cell? ⟨gb377, 0, none⟩ = some (.int .i64 t372) ∧ w'.cell? ⟨gb377, 1, none⟩ = some (.int .i64 t373) ∧ w'.cell? ⟨gb377, 2, none⟩ = some (.slice Ao21 t374.length co21) ∧ w'.cell? ⟨gb394, 0, none⟩ = some (.int .i64 ((rd_T25 y389 x11_1).f0)) ∧ w'.cell? ⟨gb394, 1, none⟩ = some (.int .i64 ((rd_T25 y389 x11_1).f1)) ∧ w'.cell? ⟨gb394, 2, none⟩ = some (.int .i64 ((rd_T25 y389 x11_1).f2)) ∧ w'.cell? ⟨gb394, 3, none⟩ = some (.int .i64 ((rd_T25 y389 x11_1).f3)) ∧ w'.cell? ⟨gb422, 0, none⟩ = some (.int .i64 t416) ∧ w'.cell? ⟨gb422, 1, none⟩ = some (.int .i64 t417) ∧ w'.cell? ⟨gb422, 2, none⟩ = some (.slice Ao96 t418.length co96)) (ds := []) Fl138 (by kernel_rfl) rfl rfl ⟨(blk_cell BK377.out 0).trans rfl, (blk_cell BK377.out 1).trans rfl, (blk_cell BK377.out 2).trans rfl, (blk_cell BK394.out 0).trans rfl, (blk_cell BK394.out 1).trans rfl, (blk_cell BK394.out 2).trans rfl, (blk_cell BK394.out 3).trans rfl, (blk_cell BK422.out 0).trans rfl, (blk_cell BK422.out 1).trans rfl, (blk_cell BK422.out 2).trans rfl⟩ (fun hHeld => ?_); refine with_tabW chequerlaw03_RectParts.tab15 chequerlaw03_RectParts.bits15 (fun HT_ HW_ => ?_)
       generalize wc.drew = w148 at HO_10 HO_378002 HO_384002 HO_416002 HO_423002 BK371 BK377 BK383 BK388 BK394 BK415 BK422 HB hHeld ⊢
       refine pur_ (i := 0) (N := some 138) Fl139 (any_of HT_.out (by kernel_rfl)) ?_
       refine pur_ (i := 1) (N := some 139) Fl140 (any_of HT_.out (by kernel_rfl)) ?_
       refine pun_ (i := 2) (N := some 140) #[true, true, true, false, false, false, false, false, false, false, false, false, false] (any_of HT_.out (by kernel_rfl)) ?_
       refine pun_ (i := 3) (N := some 141) #[true, true, true, true, false, false, false, false, false, false, false, false, false] (any_of HT_.out (by kernel_rfl)) ?_
       refine pun_ (i := 4) (N := some 142) #[true, true, true, true, true, false, false, false, false, false, false, false, false] (any_of HT_.out (by kernel_rfl)) ?_
       refine pun_ (i := 5) (N := some 143) #[true, true, true, true, true, true, false, false, false, false, false, false, false] (any_of HT_.out (by kernel_rfl)) ?_
       refine pun_ (i := 6) (N := some 144) #[true, true, true, true, true, true, true, false, false, false, false, false, false] (any_of HT_.out (by kernel_rfl)) ?_
       refine pun_ (i := 7) (N := some 145) #[true, true, true, true, true, true, true, true, false, false, false, false, false] (any_of HT_.out (by kernel_rfl)) ?_
       refine pun_ (i := 8) (N := some 146) #[true, true, true, true, true, true, true, true, true, false, false, false, false] (any_of HT_.out (by kernel_rfl)) ?_
       refine pun_ (i := 9) (N := some 147) Fl142 (any_of HT_.out (by kernel_rfl)) ?_
       refine pun_ (i := 10) (N := some 148) Fl144 (any_of HT_.out (by kernel_rfl)) ?_
       refine pun_ (i := 11) (N := some 149) Fl145 (any_of HT_.out (by kernel_rfl)) ?_
       refine pur_ (i := 12) (N := some 150) Fl149 (any_of HT_.out (by kernel_rfl)) ?_
       refine done_ (done_of HT_.out (by kernel_rfl)) ?_
       try go_wp2
       go_roundg kj53
       case measure => have := HK1.out; have := HJ53.out; omega
       case rel => exact ⟨(wrap64 (x11_1 + 1)), (by first | rfl | (simp; done) | (simp [*]; done)), H', ⟨by have := HK1.out; have := HJ53.out; omega⟩, ⟨by (with_reducible repeat (first | apply Kd.R_alloc | apply Kd.R_drewN | apply Kd.R_drew)); exact Kd.R_mono HO_10.out (fun _ hk => ⟨hk.1, hk.2.1⟩)⟩, ⟨by (with_reducible repeat (first | apply Kd.V_alloc | apply Kd.V_drewN | apply Kd.V_drew)); exact Kd.V_mono HO_378002.out (fun _ hk => ⟨hk.1, ⟨hk.2.2.2.1, ⟨hk.2.2.2.2.1, ⟨hk.2.2.2.2.2.1, hk.2.2.2.2.2.2.1⟩⟩⟩⟩)⟩, ⟨by (with_reducible repeat (first | apply Kd.V_alloc | apply Kd.V_drewN | apply Kd.V_drew)); exact Kd.V_mono HO_384002.out (fun _ hk => ⟨hk.1, ⟨hk.2.2.2.1, ⟨hk.2.2.2.2.1, ⟨hk.2.2.2.2.2.1, hk.2.2.2.2.2.2.1⟩⟩⟩⟩)⟩, ⟨hp_ BK371.out⟩, ⟨hp_ BK377.out⟩, ⟨hp_ BK383.out⟩, ⟨hp_ BK388.out⟩, ⟨bp_⟩⟩

end Go.Proofs.Ytidpaaemfiopkaa.Q
