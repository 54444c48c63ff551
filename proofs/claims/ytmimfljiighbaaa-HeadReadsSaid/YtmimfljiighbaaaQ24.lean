-- written by our own program (wip/tools/myprint.py) out of the translation, by the kit's print; Lean checks it
import Derived.Test.YtmimfljiighbaaaQ0
import Derived.Test.YtmimfljiighbaaaQ1
import Derived.Test.YtmimfljiighbaaaQ4
import Derived.Test.YtmimfljiighbaaaQ6
import Derived.Test.YtmimfljiighbaaaIhead_New
import Derived.Test.YtmimfljiighbaaaIhead_Reader_Put
import Derived.Test.YtmimfljiighbaaaIhead_Reader_Head
import Derived.Test.YtmimfljiighbaaaQ19
import Derived.Test.YtmimfljiighbaaaQ21
import Derived.Test.YtmimfljiighbaaaQ22
namespace Go.Proofs.Ytmimfljiighbaaa.Q
open Go.RowKit Go.Proofs.YtmimfljiighbaaaW.PrintWords Go.Proofs.YtmimfljiighbaaaW.PrintLast Go.Proofs.YtmimfljiighbaaaW.PrintMore
attribute [local go_sem] max2_int min2_int max_two min_two max_three min_three max_four min_four   -- for this text's walks alone
set_option linter.unusedVariables false
set_option linter.unusedSimpArgs false

attribute [local go_sem high] eqA25
abbrev Fl65 : Array Bool := #[false, false, false, false, false, false, false, false, false, false, false, false, false]
abbrev Fl66 : Array Bool := #[true, false, false, false, false, false, false, false, false, false, false, false, false]
abbrev Fl67 : Array Bool := #[true, false, true, false, false, false, false, false, false, false, false, false, false]
abbrev Fl68 : Array Bool := #[true, true, true, false, false, false, false, false, false, false, false, false, false]
abbrev Fl69 : Array Bool := #[true, true, true, true, false, false, false, false, false, false, false, false, false]
abbrev Fl70 : Array Bool := #[true, true, true, true, true, false, false, false, false, false, false, false, false]
abbrev Fl71 : Array Bool := #[true, true, true, true, true, true, false, false, false, false, false, false, false]
abbrev Fl72 : Array Bool := #[true, true, true, true, true, true, true, false, false, false, false, false, false]
abbrev Fl73 : Array Bool := #[true, true, true, true, true, true, true, true, false, false, false, false, false]
abbrev Fl74 : Array Bool := #[true, true, true, true, true, true, true, true, true, false, false, false, false]
abbrev Fl75 : Array Bool := #[true, true, true, true, true, true, true, true, true, true, false, false, false]
abbrev Fl76 : Array Bool := #[true, true, true, true, true, true, true, true, true, true, true, false, false]
abbrev Fl77 : Array Bool := #[true, true, true, true, true, true, true, true, true, true, true, true, false]
abbrev Fl78 : Array Bool := #[true, true, true, true, true, true, true, true, true, true, true, true, true]
/-! ### chequerlaw06_HeadReads: function 4 -/
mutual
def chequerlaw06_HeadReads.j0 : Nat → ByteArray → Int → Int → Int → Option (Bool)
 | 0, _, _, _, _ => none
 | k + 1, x0, x307000, x307001, x307002 => (head_New.f x307000 x307001 x307002).bind fun bt310 => ((chequerref06_Parse.f k x0 x307000 x307001 x307002).bind fun bt329 => (chequerlaw06_HeadReads.l0 k x0 bt329.2.2.2.2.1 bt329.2.2.2.2.2 0 bt310.1 bt310.2.1 bt310.2.2.1 bt310.2.2.2.1 bt310.2.2.2.2.1 bt310.2.2.2.2.2.1 bt310.2.2.2.2.2.2.1 bt310.2.2.2.2.2.2.2.1 bt310.2.2.2.2.2.2.2.2.1 bt310.2.2.2.2.2.2.2.2.2.1 bt310.2.2.2.2.2.2.2.2.2.2.1 bt310.2.2.2.2.2.2.2.2.2.2.2.1 bt310.2.2.2.2.2.2.2.2.2.2.2.2.1 bt310.2.2.2.2.2.2.2.2.2.2.2.2.2.1 bt310.2.2.2.2.2.2.2.2.2.2.2.2.2.2.1 bt310.2.2.2.2.2.2.2.2.2.2.2.2.2.2.2.1 bt310.2.2.2.2.2.2.2.2.2.2.2.2.2.2.2.2.1 bt310.2.2.2.2.2.2.2.2.2.2.2.2.2.2.2.2.2 bt329.1 bt329.2.1 bt329.2.2.1 bt329.2.2.2.1))
def chequerlaw06_HeadReads.l0 : Nat → ByteArray → Int → Int → Int → Int → Int → Int → Int → Int → Int → Int → Int → Int → Bool → Int → Int → Int → Bool → Int → Int → Int → Int → Int → Int → Int → Int → Option (Bool)
 | 0, _, _, _, _, _, _, _, _, _, _, _, _, _, _, _, _, _, _, _, _, _, _, _, _, _, _ => none
 | k + 1, x0, x11, x12, x13, x329000, x329001, x329002, x329003, x329004, x329005, x329006, x329007, x329008, x329009, x329010, x329011, x329012, x329013, x329014, x329015, x329016, x329017, x336000, x336001, x336002, x336003 => if x13 < (x0.size : Int) then (if (wrap64 (x13 + 1)) ≥ x11 then (chequerlaw06_HeadReads.j2 k x0 x11 x12 x13 0 (x12 == 0) x329000 x329001 x329002 x329003 x329004 x329005 x329006 x329007 x329008 x329009 x329010 x329011 x329012 x329013 x329014 x329015 x329016 x329017 x336000 x336001 x336002 x336003) else (chequerlaw06_HeadReads.j2 k x0 x11 x12 x13 0 false x329000 x329001 x329002 x329003 x329004 x329005 x329006 x329007 x329008 x329009 x329010 x329011 x329012 x329013 x329014 x329015 x329016 x329017 x336000 x336001 x336002 x336003)) else ((head_Reader_Head.f x329000 x329001 x329002 x329003 x329004 x329005 x329006 x329007 x329008 x329009 x329010 x329011 x329012 x329013 x329014 x329015 x329016 x329017).bind fun bt374 => (if x12 = 6 then ((chequerlaw06_as.f bt374.1 bt374.2.1 bt374.2.2.1 bt374.2.2.2.1).bind fun bt398 => (if (bt398.1 == x336000 && (bt398.2.1 == x336001 && (bt398.2.2.1 == x336002 && (bt398.2.2.2 == x336003)))) = true then (if bt374.2.2.2.2.1 = 9 then ((chequerlaw06_lives.f k).bind fun t402 => (some t402)) else (some false)) else (some false))) else ((chequerlaw06_as.f bt374.1 bt374.2.1 bt374.2.2.1 bt374.2.2.2.1).bind fun bt403 => (if (bt403.1 == x336000 && (bt403.2.1 == x336001 && (bt403.2.2.1 == x336002 && (bt403.2.2.2 == x336003)))) = true then (if bt374.2.2.2.2.1 = x12 then ((chequerlaw06_lives.f k).bind fun t407 => (some t407)) else (some false)) else (some false)))))
def chequerlaw06_HeadReads.j2 : Nat → ByteArray → Int → Int → Int → Int → Bool → Int → Int → Int → Int → Int → Int → Int → Int → Int → Bool → Int → Int → Int → Bool → Int → Int → Int → Int → Int → Int → Int → Int → Option (Bool)
 | 0, _, _, _, _, _, _, _, _, _, _, _, _, _, _, _, _, _, _, _, _, _, _, _, _, _, _, _, _ => none
 | k + 1, x0, x11, x12, x13, x14, x53, x329000, x329001, x329002, x329003, x329004, x329005, x329006, x329007, x329008, x329009, x329010, x329011, x329012, x329013, x329014, x329015, x329016, x329017, x336000, x336001, x336002, x336003 => if x53 = true then (chequerlaw06_HeadReads.j3 k x0 x11 x12 x13 1 x329000 x329001 x329002 x329003 x329004 x329005 x329006 x329007 x329008 x329009 x329010 x329011 x329012 x329013 x329014 x329015 x329016 x329017 x336000 x336001 x336002 x336003) else (chequerlaw06_HeadReads.j3 k x0 x11 x12 x13 x14 x329000 x329001 x329002 x329003 x329004 x329005 x329006 x329007 x329008 x329009 x329010 x329011 x329012 x329013 x329014 x329015 x329016 x329017 x336000 x336001 x336002 x336003)
def chequerlaw06_HeadReads.j3 : Nat → ByteArray → Int → Int → Int → Int → Int → Int → Int → Int → Int → Int → Int → Int → Int → Bool → Int → Int → Int → Bool → Int → Int → Int → Int → Int → Int → Int → Int → Option (Bool)
 | 0, _, _, _, _, _, _, _, _, _, _, _, _, _, _, _, _, _, _, _, _, _, _, _, _, _, _, _ => none
 | k + 1, x0, x11, x12, x13, x14, x329000, x329001, x329002, x329003, x329004, x329005, x329006, x329007, x329008, x329009, x329010, x329011, x329012, x329013, x329014, x329015, x329016, x329017, x336000, x336001, x336002, x336003 => if (wrap64 (x13 + 1)) ≥ x11 then (if x12 = 0 then (chequerlaw06_HeadReads.j4 k x0 x11 x12 x13 x14 false x329000 x329001 x329002 x329003 x329004 x329005 x329006 x329007 x329008 x329009 x329010 x329011 x329012 x329013 x329014 x329015 x329016 x329017 x336000 x336001 x336002 x336003) else (chequerlaw06_HeadReads.j4 k x0 x11 x12 x13 x14 (x12 != 6) x329000 x329001 x329002 x329003 x329004 x329005 x329006 x329007 x329008 x329009 x329010 x329011 x329012 x329013 x329014 x329015 x329016 x329017 x336000 x336001 x336002 x336003)) else (chequerlaw06_HeadReads.j4 k x0 x11 x12 x13 x14 false x329000 x329001 x329002 x329003 x329004 x329005 x329006 x329007 x329008 x329009 x329010 x329011 x329012 x329013 x329014 x329015 x329016 x329017 x336000 x336001 x336002 x336003)
def chequerlaw06_HeadReads.j4 : Nat → ByteArray → Int → Int → Int → Int → Bool → Int → Int → Int → Int → Int → Int → Int → Int → Int → Bool → Int → Int → Int → Bool → Int → Int → Int → Int → Int → Int → Int → Int → Option (Bool)
 | 0, _, _, _, _, _, _, _, _, _, _, _, _, _, _, _, _, _, _, _, _, _, _, _, _, _, _, _, _ => none
 | k + 1, x0, x11, x12, x13, x14, x65, x329000, x329001, x329002, x329003, x329004, x329005, x329006, x329007, x329008, x329009, x329010, x329011, x329012, x329013, x329014, x329015, x329016, x329017, x336000, x336001, x336002, x336003 => if x65 = true then (if 0 ≤ x13 then (if x13 < (x0.size : Int) then ((head_Reader_Put.f x329000 x329001 x329002 x329003 x329004 x329005 x329006 x329007 x329008 x329009 x329010 x329011 x329012 x329013 x329014 x329015 x329016 x329017 (bt x0 x13)).bind fun bt336 => (if bt336.1 = 2 then (chequerlaw06_HeadReads.l0 k x0 x11 x12 (wrap64 (x13 + 1)) bt336.2.1 bt336.2.2.1 bt336.2.2.2.1 bt336.2.2.2.2.1 bt336.2.2.2.2.2.1 bt336.2.2.2.2.2.2.1 bt336.2.2.2.2.2.2.2.1 bt336.2.2.2.2.2.2.2.2.1 bt336.2.2.2.2.2.2.2.2.2.1 bt336.2.2.2.2.2.2.2.2.2.2.1 bt336.2.2.2.2.2.2.2.2.2.2.2.1 bt336.2.2.2.2.2.2.2.2.2.2.2.2.1 bt336.2.2.2.2.2.2.2.2.2.2.2.2.2.1 bt336.2.2.2.2.2.2.2.2.2.2.2.2.2.2.1 bt336.2.2.2.2.2.2.2.2.2.2.2.2.2.2.2.1 bt336.2.2.2.2.2.2.2.2.2.2.2.2.2.2.2.2.1 bt336.2.2.2.2.2.2.2.2.2.2.2.2.2.2.2.2.2.1 bt336.2.2.2.2.2.2.2.2.2.2.2.2.2.2.2.2.2.2 x336000 x336001 x336002 x336003) else (some false))) else (none)) else (none)) else (if 0 ≤ x13 then (if x13 < (x0.size : Int) then ((head_Reader_Put.f x329000 x329001 x329002 x329003 x329004 x329005 x329006 x329007 x329008 x329009 x329010 x329011 x329012 x329013 x329014 x329015 x329016 x329017 (bt x0 x13)).bind fun bt355 => (if bt355.1 = x14 then (chequerlaw06_HeadReads.l0 k x0 x11 x12 (wrap64 (x13 + 1)) bt355.2.1 bt355.2.2.1 bt355.2.2.2.1 bt355.2.2.2.2.1 bt355.2.2.2.2.2.1 bt355.2.2.2.2.2.2.1 bt355.2.2.2.2.2.2.2.1 bt355.2.2.2.2.2.2.2.2.1 bt355.2.2.2.2.2.2.2.2.2.1 bt355.2.2.2.2.2.2.2.2.2.2.1 bt355.2.2.2.2.2.2.2.2.2.2.2.1 bt355.2.2.2.2.2.2.2.2.2.2.2.2.1 bt355.2.2.2.2.2.2.2.2.2.2.2.2.2.1 bt355.2.2.2.2.2.2.2.2.2.2.2.2.2.2.1 bt355.2.2.2.2.2.2.2.2.2.2.2.2.2.2.2.1 bt355.2.2.2.2.2.2.2.2.2.2.2.2.2.2.2.2.1 bt355.2.2.2.2.2.2.2.2.2.2.2.2.2.2.2.2.2.1 bt355.2.2.2.2.2.2.2.2.2.2.2.2.2.2.2.2.2.2 x336000 x336001 x336002 x336003) else (some false))) else (none)) else (none))
end
def chequerlaw06_HeadReads.f (k : Nat) (a0 : ByteArray) (a1_0 : Int) (a1_1 : Int) (a1_2 : Int) (a2 : Int) (a3 : Bool) : Option (Bool) := (chequerref05_Few.f a0 40).bind fun t307 => (if a3 = true then (chequerlaw06_HeadReads.j0 k t307 a1_0 a1_1 a1_2) else ((chequerref01_Around.f a2 6).bind fun t308 => ((chequerref01_Decimal.f k (wrap64 (1 + t308))).bind fun t309 => (if 1 + t309.size ≤ 9223372036854775807 then (if ((⟨#[80]⟩ : ByteArray) ++ t309).size + 1 ≤ 9223372036854775807 then (if (((⟨#[80]⟩ : ByteArray) ++ t309) ++ (⟨#[32]⟩ : ByteArray)).size + t307.size ≤ 9223372036854775807 then (chequerlaw06_HeadReads.j0 k ((((⟨#[80]⟩ : ByteArray) ++ t309) ++ (⟨#[32]⟩ : ByteArray)) ++ t307) a1_0 a1_1 a1_2) else (none)) else (none)) else (none)))))
theorem isTyR_of {W : World} {b : Nat} {cs : Array Value} {t : TypeId} (h : W.heap[b]? = some (.cells cs t (0, 0))) : isTy W b t := ⟨cs, h⟩
theorem chequerlaw06_HeadReads.mono_l : ∀ k, (∀ y0 y1 y2 y3, LeO (chequerlaw06_HeadReads.j0 k y0 y1 y2 y3) (chequerlaw06_HeadReads.j0 (k + 1) y0 y1 y2 y3)) ∧ (∀ y0 y1 y2 y3 y4 y5 y6 y7 y8 y9 y10 y11 y12 y13 y14 y15 y16 y17 y18 y19 y20 y21 y22 y23 y24 y25, LeO (chequerlaw06_HeadReads.l0 k y0 y1 y2 y3 y4 y5 y6 y7 y8 y9 y10 y11 y12 y13 y14 y15 y16 y17 y18 y19 y20 y21 y22 y23 y24 y25) (chequerlaw06_HeadReads.l0 (k + 1) y0 y1 y2 y3 y4 y5 y6 y7 y8 y9 y10 y11 y12 y13 y14 y15 y16 y17 y18 y19 y20 y21 y22 y23 y24 y25)) ∧ (∀ y0 y1 y2 y3 y4 y5 y6 y7 y8 y9 y10 y11 y12 y13 y14 y15 y16 y17 y18 y19 y20 y21 y22 y23 y24 y25 y26 y27, LeO (chequerlaw06_HeadReads.j2 k y0 y1 y2 y3 y4 y5 y6 y7 y8 y9 y10 y11 y12 y13 y14 y15 y16 y17 y18 y19 y20 y21 y22 y23 y24 y25 y26 y27) (chequerlaw06_HeadReads.j2 (k + 1) y0 y1 y2 y3 y4 y5 y6 y7 y8 y9 y10 y11 y12 y13 y14 y15 y16 y17 y18 y19 y20 y21 y22 y23 y24 y25 y26 y27)) ∧ (∀ y0 y1 y2 y3 y4 y5 y6 y7 y8 y9 y10 y11 y12 y13 y14 y15 y16 y17 y18 y19 y20 y21 y22 y23 y24 y25 y26, LeO (chequerlaw06_HeadReads.j3 k y0 y1 y2 y3 y4 y5 y6 y7 y8 y9 y10 y11 y12 y13 y14 y15 y16 y17 y18 y19 y20 y21 y22 y23 y24 y25 y26) (chequerlaw06_HeadReads.j3 (k + 1) y0 y1 y2 y3 y4 y5 y6 y7 y8 y9 y10 y11 y12 y13 y14 y15 y16 y17 y18 y19 y20 y21 y22 y23 y24 y25 y26)) ∧ (∀ y0 y1 y2 y3 y4 y5 y6 y7 y8 y9 y10 y11 y12 y13 y14 y15 y16 y17 y18 y19 y20 y21 y22 y23 y24 y25 y26 y27, LeO (chequerlaw06_HeadReads.j4 k y0 y1 y2 y3 y4 y5 y6 y7 y8 y9 y10 y11 y12 y13 y14 y15 y16 y17 y18 y19 y20 y21 y22 y23 y24 y25 y26 y27) (chequerlaw06_HeadReads.j4 (k + 1) y0 y1 y2 y3 y4 y5 y6 y7 y8 y9 y10 y11 y12 y13 y14 y15 y16 y17 y18 y19 y20 y21 y22 y23 y24 y25 y26 y27))
 | 0 => ⟨fun _ _ _ _ r h => by simp [chequerlaw06_HeadReads.j0] at h, fun _ _ _ _ _ _ _ _ _ _ _ _ _ _ _ _ _ _ _ _ _ _ _ _ _ _ r h => by simp [chequerlaw06_HeadReads.l0] at h, fun _ _ _ _ _ _ _ _ _ _ _ _ _ _ _ _ _ _ _ _ _ _ _ _ _ _ _ _ r h => by simp [chequerlaw06_HeadReads.j2] at h, fun _ _ _ _ _ _ _ _ _ _ _ _ _ _ _ _ _ _ _ _ _ _ _ _ _ _ _ r h => by simp [chequerlaw06_HeadReads.j3] at h, fun _ _ _ _ _ _ _ _ _ _ _ _ _ _ _ _ _ _ _ _ _ _ _ _ _ _ _ _ r h => by simp [chequerlaw06_HeadReads.j4] at h⟩
 | k + 1 => by
  obtain ⟨ih0, ih1, ih2, ih3, ih4⟩ := chequerlaw06_HeadReads.mono_l k
  refine ⟨?_, ?_, ?_, ?_, ?_⟩
  · intro y0 y1 y2 y3
    unfold chequerlaw06_HeadReads.j0
    repeat' first
    | (with_reducible exact ih0 _ _ _ _)
    | (with_reducible exact ih1 _ _ _ _ _ _ _ _ _ _ _ _ _ _ _ _ _ _ _ _ _ _ _ _ _ _)
    | (with_reducible exact ih2 _ _ _ _ _ _ _ _ _ _ _ _ _ _ _ _ _ _ _ _ _ _ _ _ _ _ _ _)
    | (with_reducible exact ih3 _ _ _ _ _ _ _ _ _ _ _ _ _ _ _ _ _ _ _ _ _ _ _ _ _ _ _)
    | (with_reducible exact ih4 _ _ _ _ _ _ _ _ _ _ _ _ _ _ _ _ _ _ _ _ _ _ _ _ _ _ _ _)
    | (with_reducible exact chequerlaw06_lives.mono _)
    | (with_reducible exact chequerref01_Decimal.mono _ _)
    | (with_reducible exact chequerref06_Parse.mono _ _ _ _ _)
    | (with_reducible exact LeO.refl _)
    | (with_reducible exact LeO.none _)
    | (with_reducible refine LeO.ite ?_ ?_)
    | (with_reducible refine LeO.bind ?_ (fun _ => ?_))
    | exact ih0 _ _ _ _
    | exact ih1 _ _ _ _ _ _ _ _ _ _ _ _ _ _ _ _ _ _ _ _ _ _ _ _ _ _
    | exact ih2 _ _ _ _ _ _ _ _ _ _ _ _ _ _ _ _ _ _ _ _ _ _ _ _ _ _ _ _
    | exact ih3 _ _ _ _ _ _ _ _ _ _ _ _ _ _ _ _ _ _ _ _ _ _ _ _ _ _ _
    | exact ih4 _ _ _ _ _ _ _ _ _ _ _ _ _ _ _ _ _ _ _ _ _ _ _ _ _ _ _ _
    | exact chequerlaw06_lives.mono _
    | exact chequerref01_Decimal.mono _ _
    | exact chequerref06_Parse.mono _ _ _ _ _
    | exact LeO.none _
    | refine LeO.ite ?_ ?_
    | refine LeO.bind ?_ (fun _ => ?_)
  · intro y0 y1 y2 y3 y4 y5 y6 y7 y8 y9 y10 y11 y12 y13 y14 y15 y16 y17 y18 y19 y20 y21 y22 y23 y24 y25
    unfold chequerlaw06_HeadReads.l0
    repeat' first
    | (with_reducible exact ih0 _ _ _ _)
    | (with_reducible exact ih1 _ _ _ _ _ _ _ _ _ _ _ _ _ _ _ _ _ _ _ _ _ _ _ _ _ _)
    | (with_reducible exact ih2 _ _ _ _ _ _ _ _ _ _ _ _ _ _ _ _ _ _ _ _ _ _ _ _ _ _ _ _)
    | (with_reducible exact ih3 _ _ _ _ _ _ _ _ _ _ _ _ _ _ _ _ _ _ _ _ _ _ _ _ _ _ _)
    | (with_reducible exact ih4 _ _ _ _ _ _ _ _ _ _ _ _ _ _ _ _ _ _ _ _ _ _ _ _ _ _ _ _)
    | (with_reducible exact chequerlaw06_lives.mono _)
    | (with_reducible exact chequerref01_Decimal.mono _ _)
    | (with_reducible exact chequerref06_Parse.mono _ _ _ _ _)
    | (with_reducible exact LeO.refl _)
    | (with_reducible exact LeO.none _)
    | (with_reducible refine LeO.ite ?_ ?_)
    | (with_reducible refine LeO.bind ?_ (fun _ => ?_))
    | exact ih0 _ _ _ _
    | exact ih1 _ _ _ _ _ _ _ _ _ _ _ _ _ _ _ _ _ _ _ _ _ _ _ _ _ _
    | exact ih2 _ _ _ _ _ _ _ _ _ _ _ _ _ _ _ _ _ _ _ _ _ _ _ _ _ _ _ _
    | exact ih3 _ _ _ _ _ _ _ _ _ _ _ _ _ _ _ _ _ _ _ _ _ _ _ _ _ _ _
    | exact ih4 _ _ _ _ _ _ _ _ _ _ _ _ _ _ _ _ _ _ _ _ _ _ _ _ _ _ _ _
    | exact chequerlaw06_lives.mono _
    | exact chequerref01_Decimal.mono _ _
    | exact chequerref06_Parse.mono _ _ _ _ _
    | exact LeO.none _
    | refine LeO.ite ?_ ?_
    | refine LeO.bind ?_ (fun _ => ?_)
  · intro y0 y1 y2 y3 y4 y5 y6 y7 y8 y9 y10 y11 y12 y13 y14 y15 y16 y17 y18 y19 y20 y21 y22 y23 y24 y25 y26 y27
    unfold chequerlaw06_HeadReads.j2
    repeat' first
    | (with_reducible exact ih0 _ _ _ _)
    | (with_reducible exact ih1 _ _ _ _ _ _ _ _ _ _ _ _ _ _ _ _ _ _ _ _ _ _ _ _ _ _)
    | (with_reducible exact ih2 _ _ _ _ _ _ _ _ _ _ _ _ _ _ _ _ _ _ _ _ _ _ _ _ _ _ _ _)
    | (with_reducible exact ih3 _ _ _ _ _ _ _ _ _ _ _ _ _ _ _ _ _ _ _ _ _ _ _ _ _ _ _)
    | (with_reducible exact ih4 _ _ _ _ _ _ _ _ _ _ _ _ _ _ _ _ _ _ _ _ _ _ _ _ _ _ _ _)
    | (with_reducible exact chequerlaw06_lives.mono _)
    | (with_reducible exact chequerref01_Decimal.mono _ _)
    | (with_reducible exact chequerref06_Parse.mono _ _ _ _ _)
    | (with_reducible exact LeO.refl _)
    | (with_reducible exact LeO.none _)
    | (with_reducible refine LeO.ite ?_ ?_)
    | (with_reducible refine LeO.bind ?_ (fun _ => ?_))
    | exact ih0 _ _ _ _
    | exact ih1 _ _ _ _ _ _ _ _ _ _ _ _ _ _ _ _ _ _ _ _ _ _ _ _ _ _
    | exact ih2 _ _ _ _ _ _ _ _ _ _ _ _ _ _ _ _ _ _ _ _ _ _ _ _ _ _ _ _
    | exact ih3 _ _ _ _ _ _ _ _ _ _ _ _ _ _ _ _ _ _ _ _ _ _ _ _ _ _ _
    | exact ih4 _ _ _ _ _ _ _ _ _ _ _ _ _ _ _ _ _ _ _ _ _ _ _ _ _ _ _ _
    | exact chequerlaw06_lives.mono _
    | exact chequerref01_Decimal.mono _ _
    | exact chequerref06_Parse.mono _ _ _ _ _
    | exact LeO.none _
    | refine LeO.ite ?_ ?_
    | refine LeO.bind ?_ (fun _ => ?_)
  · intro y0 y1 y2 y3 y4 y5 y6 y7 y8 y9 y10 y11 y12 y13 y14 y15 y16 y17 y18 y19 y20 y21 y22 y23 y24 y25 y26
    unfold chequerlaw06_HeadReads.j3
    repeat' first
    | (with_reducible exact ih0 _ _ _ _)
    | (with_reducible exact ih1 _ _ _ _ _ _ _ _ _ _ _ _ _ _ _ _ _ _ _ _ _ _ _ _ _ _)
    | (with_reducible exact ih2 _ _ _ _ _ _ _ _ _ _ _ _ _ _ _ _ _ _ _ _ _ _ _ _ _ _ _ _)
    | (with_reducible exact ih3 _ _ _ _ _ _ _ _ _ _ _ _ _ _ _ _ _ _ _ _ _ _ _ _ _ _ _)
    | (with_reducible exact ih4 _ _ _ _ _ _ _ _ _ _ _ _ _ _ _ _ _ _ _ _ _ _ _ _ _ _ _ _)
    | (with_reducible exact chequerlaw06_lives.mono _)
    | (with_reducible exact chequerref01_Decimal.mono _ _)
    | (with_reducible exact chequerref06_Parse.mono _ _ _ _ _)
    | (with_reducible exact LeO.refl _)
    | (with_reducible exact LeO.none _)
    | (with_reducible refine LeO.ite ?_ ?_)
    | (with_reducible refine LeO.bind ?_ (fun _ => ?_))
    | exact ih0 _ _ _ _
    | exact ih1 _ _ _ _ _ _ _ _ _ _ _ _ _ _ _ _ _ _ _ _ _ _ _ _ _ _
    | exact ih2 _ _ _ _ _ _ _ _ _ _ _ _ _ _ _ _ _ _ _ _ _ _ _ _ _ _ _ _
    | exact ih3 _ _ _ _ _ _ _ _ _ _ _ _ _ _ _ _ _ _ _ _ _ _ _ _ _ _ _
    | exact ih4 _ _ _ _ _ _ _ _ _ _ _ _ _ _ _ _ _ _ _ _ _ _ _ _ _ _ _ _
    | exact chequerlaw06_lives.mono _
    | exact chequerref01_Decimal.mono _ _
    | exact chequerref06_Parse.mono _ _ _ _ _
    | exact LeO.none _
    | refine LeO.ite ?_ ?_
    | refine LeO.bind ?_ (fun _ => ?_)
  · intro y0 y1 y2 y3 y4 y5 y6 y7 y8 y9 y10 y11 y12 y13 y14 y15 y16 y17 y18 y19 y20 y21 y22 y23 y24 y25 y26 y27
    unfold chequerlaw06_HeadReads.j4
    repeat' first
    | (with_reducible exact ih0 _ _ _ _)
    | (with_reducible exact ih1 _ _ _ _ _ _ _ _ _ _ _ _ _ _ _ _ _ _ _ _ _ _ _ _ _ _)
    | (with_reducible exact ih2 _ _ _ _ _ _ _ _ _ _ _ _ _ _ _ _ _ _ _ _ _ _ _ _ _ _ _ _)
    | (with_reducible exact ih3 _ _ _ _ _ _ _ _ _ _ _ _ _ _ _ _ _ _ _ _ _ _ _ _ _ _ _)
    | (with_reducible exact ih4 _ _ _ _ _ _ _ _ _ _ _ _ _ _ _ _ _ _ _ _ _ _ _ _ _ _ _ _)
    | (with_reducible exact chequerlaw06_lives.mono _)
    | (with_reducible exact chequerref01_Decimal.mono _ _)
    | (with_reducible exact chequerref06_Parse.mono _ _ _ _ _)
    | (with_reducible exact LeO.refl _)
    | (with_reducible exact LeO.none _)
    | (with_reducible refine LeO.ite ?_ ?_)
    | (with_reducible refine LeO.bind ?_ (fun _ => ?_))
    | exact ih0 _ _ _ _
    | exact ih1 _ _ _ _ _ _ _ _ _ _ _ _ _ _ _ _ _ _ _ _ _ _ _ _ _ _
    | exact ih2 _ _ _ _ _ _ _ _ _ _ _ _ _ _ _ _ _ _ _ _ _ _ _ _ _ _ _ _
    | exact ih3 _ _ _ _ _ _ _ _ _ _ _ _ _ _ _ _ _ _ _ _ _ _ _ _ _ _ _
    | exact ih4 _ _ _ _ _ _ _ _ _ _ _ _ _ _ _ _ _ _ _ _ _ _ _ _ _ _ _ _
    | exact chequerlaw06_lives.mono _
    | exact chequerref01_Decimal.mono _ _
    | exact chequerref06_Parse.mono _ _ _ _ _
    | exact LeO.none _
    | refine LeO.ite ?_ ?_
    | refine LeO.bind ?_ (fun _ => ?_)
theorem chequerlaw06_HeadReads.mono : ∀ a0 a1 a2 a3 a4 a5 k, LeO (chequerlaw06_HeadReads.f k a0 a1 a2 a3 a4 a5) (chequerlaw06_HeadReads.f (k + 1) a0 a1 a2 a3 a4 a5) := by
 intro a0 a1 a2 a3 a4 a5 k
 obtain ⟨ih0, ih1, ih2, ih3, ih4⟩ := chequerlaw06_HeadReads.mono_l k
 unfold chequerlaw06_HeadReads.f
 repeat' first
  | (with_reducible exact ih0 _ _ _ _)
  | (with_reducible exact ih1 _ _ _ _ _ _ _ _ _ _ _ _ _ _ _ _ _ _ _ _ _ _ _ _ _ _)
  | (with_reducible exact ih2 _ _ _ _ _ _ _ _ _ _ _ _ _ _ _ _ _ _ _ _ _ _ _ _ _ _ _ _)
  | (with_reducible exact ih3 _ _ _ _ _ _ _ _ _ _ _ _ _ _ _ _ _ _ _ _ _ _ _ _ _ _ _)
  | (with_reducible exact ih4 _ _ _ _ _ _ _ _ _ _ _ _ _ _ _ _ _ _ _ _ _ _ _ _ _ _ _ _)
  | (with_reducible exact chequerlaw06_lives.mono _)
  | (with_reducible exact chequerref01_Decimal.mono _ _)
  | (with_reducible exact chequerref06_Parse.mono _ _ _ _ _)
  | (with_reducible exact LeO.refl _)
  | (with_reducible exact LeO.none _)
  | (with_reducible refine LeO.ite ?_ ?_)
  | (with_reducible refine LeO.bind ?_ (fun _ => ?_))
  | exact ih0 _ _ _ _
  | exact ih1 _ _ _ _ _ _ _ _ _ _ _ _ _ _ _ _ _ _ _ _ _ _ _ _ _ _
  | exact ih2 _ _ _ _ _ _ _ _ _ _ _ _ _ _ _ _ _ _ _ _ _ _ _ _ _ _ _ _
  | exact ih3 _ _ _ _ _ _ _ _ _ _ _ _ _ _ _ _ _ _ _ _ _ _ _ _ _ _ _
  | exact ih4 _ _ _ _ _ _ _ _ _ _ _ _ _ _ _ _ _ _ _ _ _ _ _ _ _ _ _ _
  | exact chequerlaw06_lives.mono _
  | exact chequerref01_Decimal.mono _ _
  | exact chequerref06_Parse.mono _ _ _ _ _
  | exact LeO.none _
  | refine LeO.ite ?_ ?_
  | refine LeO.bind ?_ (fun _ => ?_)
def chequerlaw06_HeadReads.T21 : Bool × List (List Nat × List Nat) := (true, [([], []), ([0], [0]), ([], []), ([1, 2], [1, 2]), ([3, 1], [3]), ([4], [4]), ([4], [4]), ([5, 6, 4], [4, 5, 6]), ([4, 7], [4, 7]), ([8, 4], [8]), ([9, 9], [9]), ([9, 10], [9, 10]), ([11, 10, 0, 1, 2, 3, 4, 5, 6, 7, 8, 9, 10, 11], [11])])
def chequerlaw06_HeadReads.B21 : List Nat := [0, 1, 0, 7, 15, 31, 31, 127, 255, 511, 1023, 2047, 4095]
theorem chequerlaw06_HeadReads.tab21 : rtab .any (opsOf Try.f4 21) = chequerlaw06_HeadReads.T21 := by kernel_rfl
theorem chequerlaw06_HeadReads.bits21 : waitsOk chequerlaw06_HeadReads.T21.2 chequerlaw06_HeadReads.B21 = true := by kernel_rfl
set_option maxHeartbeats 8000000 in
set_option maxRecDepth 100000 in
theorem chequerlaw06_HeadReads.calls (k : Nat) (a0 : ByteArray) (a1_0 : Int) (a1_1 : Int) (a1_2 : Int) (a2 : Int) (a3 : Bool) (r : Bool) (w : World) (h : chequerlaw06_HeadReads.f k a0 a1_0 a1_1 a1_2 a2 a3 = some r) :
 Calls Try.prog 4 #[.string a0, .agg #[.int .i64 a1_0, .int .i64 a1_1, .int .i64 a1_2], .int .i64 a2, .bool a3] w fun e w' => e = .returned (.bool r) ∧ Below w.heap.size w w' := by
 have hu23 := Try.underlying23
 have hu25 := Try.underlying25
 have hu36 := Try.underlying36
 have HB := Aside0.mk (Below.refl w.heap.size w)
 have H : ((chequerref05_Few.f a0 40).bind fun t307 => (if a3 = true then (chequerlaw06_HeadReads.j0 k t307 a1_0 a1_1 a1_2) else ((chequerref01_Around.f a2 6).bind fun t308 => ((chequerref01_Decimal.f k (wrap64 (1 + t308))).bind fun t309 => (if 1 + t309.size ≤ 9223372036854775807 then (if ((⟨#[80]⟩ : ByteArray) ++ t309).size + 1 ≤ 9223372036854775807 then (if (((⟨#[80]⟩ : ByteArray) ++ t309) ++ (⟨#[32]⟩ : ByteArray)).size + t307.size ≤ 9223372036854775807 then (chequerlaw06_HeadReads.j0 k ((((⟨#[80]⟩ : ByteArray) ++ t309) ++ (⟨#[32]⟩ : ByteArray)) ++ t307) a1_0 a1_1 a1_2) else (none)) else (none)) else (none)))))) = some r := h
 clear h
 replace H := Option.bind_eq_some_iff.mp H
 obtain ⟨t307, A50, H⟩ := H
 replace H : (if a3 = true then (chequerlaw06_HeadReads.j0 k t307 a1_0 a1_1 a1_2) else ((chequerref01_Around.f a2 6).bind fun t308 => ((chequerref01_Decimal.f k (wrap64 (1 + t308))).bind fun t309 => (if 1 + t309.size ≤ 9223372036854775807 then (if ((⟨#[80]⟩ : ByteArray) ++ t309).size + 1 ≤ 9223372036854775807 then (if (((⟨#[80]⟩ : ByteArray) ++ t309) ++ (⟨#[32]⟩ : ByteArray)).size + t307.size ≤ 9223372036854775807 then (chequerlaw06_HeadReads.j0 k ((((⟨#[80]⟩ : ByteArray) ++ t309) ++ (⟨#[32]⟩ : ByteArray)) ++ t307) a1_0 a1_1 a1_2) else (none)) else (none)) else (none))))) = some r := H
 have A5 := Aside0.mk A50
 clear A50
 have HC6 := Aside0.mk H
 clear H
 go_enter Try.func4, Try.ntmps4
 go_upto_if 20 with (first | ((with_reducible refine gate_dst (N := 5) rfl ?_); refine box_event ?hg (N := 5) ?hd (cs := #[.int .i64 a1_0, .int .i64 a1_1, .int .i64 a1_2]) (t := 23) ?hr ?_; (case hd => rfl); (case hg => rfl); (case hr => first | (go_simp; done) | (go_simp; rfl)); intro gb306 hg w7 hbox hb; have BK306 := Aside0.mk (hbox); have GW306 := Aside0.mk ((by rw [hg]; exact (below_size bp_) : w.heap.size ≤ gb306)); have GE306 := Aside0.mk ((by rw [hg]; exact (below_size bp_) : w.heap.size ≤ gb306)); replace HB := Aside0.mk (below_step bp_ hb); clear hb hbox hg) | ((with_reducible refine gate_callee (f := 9) rfl ?_); refine goQ_ (some 18) Try.func9 #[.string a0, .int .i64 40] ?_; (with_reducible refine (chequerref05_Few.calls a0 40 t307 _ A5.out).mono ?_); rintro e w' ⟨rfl, ⟨nd, rfl⟩⟩; refine ⟨_, rfl, ?_⟩))
 (try simp only [Act.put, List.setIfInBounds_toArray, List.set_cons_zero, List.set_cons_succ])
 go_cut [0] (fun v0 wc => ∃ (kq : Nat) (x0_5 : ByteArray), v0 = .string x0_5 ∧ Aside0 (chequerlaw06_HeadReads.j0 kq x0_5 a1_0 a1_1 a1_2 = some r) ∧ Aside0 (kq ≤ k) ∧ Aside0 (wc.heap[gb306]? = some (.cells #[.int .i64 a1_0, .int .i64 a1_1, .int .i64 a1_2] 23 (0, 0))) ∧ Aside0 (Below w.heap.size w wc))
 case first =>
  have H := HC6.out
  clear HC6
  by_cases c8 : a3 = true
  · subst c8
    have H1 : (chequerlaw06_HeadReads.j0 k t307 a1_0 a1_1 a1_2) = some r := by rw [if_pos rfl] at H; exact H
    clear H
    have H := H1
    clear H1
    have H' := Aside0.mk H
    clear H
    go_wp2
    go_meet
    case rel => exact ⟨_, (t307), (by first | rfl | (simp; done) | (simp [*]; done)), H', ⟨by first | omega | exact Nat.le_refl _⟩, ⟨hp_ BK306.out⟩, ⟨bp_⟩⟩
  · replace c8 := Bool.eq_false_iff.mpr c8
    subst c8
    have H1 : ((chequerref01_Around.f a2 6).bind fun t308 => ((chequerref01_Decimal.f k (wrap64 (1 + t308))).bind fun t309 => (if 1 + t309.size ≤ 9223372036854775807 then (if ((⟨#[80]⟩ : ByteArray) ++ t309).size + 1 ≤ 9223372036854775807 then (if (((⟨#[80]⟩ : ByteArray) ++ t309) ++ (⟨#[32]⟩ : ByteArray)).size + t307.size ≤ 9223372036854775807 then (chequerlaw06_HeadReads.j0 k ((((⟨#[80]⟩ : ByteArray) ++ t309) ++ (⟨#[32]⟩ : ByteArray)) ++ t307) a1_0 a1_1 a1_2) else (none)) else (none)) else (none)))) = some r := by rw [if_neg (show ¬ (false = true) by decide)] at H; exact H
    clear H
    have H := H1
    clear H1
    replace H := Option.bind_eq_some_iff.mp H
    obtain ⟨t308, A90, H⟩ := H
    replace H : ((chequerref01_Decimal.f k (wrap64 (1 + t308))).bind fun t309 => (if 1 + t309.size ≤ 9223372036854775807 then (if ((⟨#[80]⟩ : ByteArray) ++ t309).size + 1 ≤ 9223372036854775807 then (if (((⟨#[80]⟩ : ByteArray) ++ t309) ++ (⟨#[32]⟩ : ByteArray)).size + t307.size ≤ 9223372036854775807 then (chequerlaw06_HeadReads.j0 k ((((⟨#[80]⟩ : ByteArray) ++ t309) ++ (⟨#[32]⟩ : ByteArray)) ++ t307) a1_0 a1_1 a1_2) else (none)) else (none)) else (none))) = some r := H
    have A9 := Aside0.mk A90
    clear A90
    replace H := Option.bind_eq_some_iff.mp H
    obtain ⟨t309, A100, H⟩ := H
    replace H : (if 1 + t309.size ≤ 9223372036854775807 then (if ((⟨#[80]⟩ : ByteArray) ++ t309).size + 1 ≤ 9223372036854775807 then (if (((⟨#[80]⟩ : ByteArray) ++ t309) ++ (⟨#[32]⟩ : ByteArray)).size + t307.size ≤ 9223372036854775807 then (chequerlaw06_HeadReads.j0 k ((((⟨#[80]⟩ : ByteArray) ++ t309) ++ (⟨#[32]⟩ : ByteArray)) ++ t307) a1_0 a1_1 a1_2) else (none)) else (none)) else (none)) = some r := H
    have A10 := Aside0.mk A100
    clear A100
    by_cases c11 : 1 + t309.size ≤ 9223372036854775807
    · rw [if_pos c11] at H
      have c11b0 := eq_true c11
      have c11b1 : decide (1 + t309.size ≤ 9223372036854775807) = true := decide_eq_true c11
      try have c11b2 : (9223372036854775807 < 1 + t309.size) = False := eq_false (Nat.not_lt.2 c11)
      by_cases c12 : ((⟨#[80]⟩ : ByteArray) ++ t309).size + 1 ≤ 9223372036854775807
      · rw [if_pos c12] at H
        have c12b0 := eq_true c12
        have c12b1 : decide (((⟨#[80]⟩ : ByteArray) ++ t309).size + 1 ≤ 9223372036854775807) = true := decide_eq_true c12
        try have c12b2 : (9223372036854775807 < ((⟨#[80]⟩ : ByteArray) ++ t309).size + 1) = False := eq_false (Nat.not_lt.2 c12)
        (try (have c12y := c12b2; simp only [ByteArray.size_append, show (⟨#[80]⟩ : ByteArray).size = 1 from rfl] at c12y))
        by_cases c13 : (((⟨#[80]⟩ : ByteArray) ++ t309) ++ (⟨#[32]⟩ : ByteArray)).size + t307.size ≤ 9223372036854775807
        · rw [if_pos c13] at H
          have c13b0 := eq_true c13
          have c13b1 : decide ((((⟨#[80]⟩ : ByteArray) ++ t309) ++ (⟨#[32]⟩ : ByteArray)).size + t307.size ≤ 9223372036854775807) = true := decide_eq_true c13
          try have c13b2 : (9223372036854775807 < (((⟨#[80]⟩ : ByteArray) ++ t309) ++ (⟨#[32]⟩ : ByteArray)).size + t307.size) = False := eq_false (Nat.not_lt.2 c13)
          (try (have c13y := c13b2; simp only [ByteArray.size_append, show (⟨#[32]⟩ : ByteArray).size = 1 from rfl, show (⟨#[80]⟩ : ByteArray).size = 1 from rfl] at c13y))
          have H' := Aside0.mk H
          clear H
          go_wp2_with (first | ((with_reducible refine gate_callee (f := 13) rfl ?_); refine goQ_ (some 22) Try.func13 #[.int .i64 a2, .int .i64 6] ?_; (with_reducible refine (chequerref01_Around.calls a2 6 t308 _ A9.out).mono ?_); rintro e w' ⟨rfl, ⟨nd, rfl⟩⟩; refine ⟨_, rfl, ?_⟩) | ((with_reducible refine gate_callee (f := 18) rfl ?_); refine goQ_ (some 24) Try.func18 #[.int .i64 (wrap64 (1 + t308))] ?_; (with_reducible refine (chequerref01_Decimal.calls k (wrap64 (1 + t308)) t309 _ A10.out).mono ?_); rintro e w14 ⟨rfl, hb⟩; refine ⟨_, rfl, ?_⟩; replace BK306 := Aside0.mk (blk_below (hp_ BK306.out) hb); replace HB := Aside0.mk (below_step bp_ hb); (try clear hb); (try clear hb2); (try clear hk); (try clear hi)))
          go_meet
          case rel => exact ⟨_, ((((⟨#[80]⟩ : ByteArray) ++ t309) ++ (⟨#[32]⟩ : ByteArray)) ++ t307), (by first | rfl | (simp; done) | (simp [*]; done)), H', ⟨by first | omega | exact Nat.le_refl _⟩, ⟨hp_ BK306.out⟩, ⟨bp_⟩⟩
        · rw [if_neg c13] at H
          exact absurd H (by simp)
      · rw [if_neg c12] at H
        exact absurd H (by simp)
    · rw [if_neg c11] at H
      exact absurd H (by simp)
 case rest =>
  clear HC6
  try clear c1
  try clear p2
  try clear c4
  try clear p6
  try clear c8
  try clear c9
  try clear c11
  try clear c11b0
  try clear c11b1
  try clear c11b2
  try clear c12
  try clear c12b0
  try clear c12b1
  try clear c12b2
  try clear c13
  try clear c13b0
  try clear c13b1
  try clear c13b2
  obtain ⟨kq, x0_5, rfl, HA, HJ5, BK306, HB⟩ := hcut
  cases kq with
  | zero => exact absurd HA.out (by simp [chequerlaw06_HeadReads.j0])
  | succ kj5 =>
   have H := HA.out
   clear HA
   simp only [chequerlaw06_HeadReads.j0] at H
   replace H := Option.bind_eq_some_iff.mp H
   obtain ⟨⟨t310, t311, t312, t313, t314, t315, t316, t317, t318, t319, t320, t321, t322, t323, t324, t325, t326, t327⟩, A150, H⟩ := H
   replace H : ((chequerref06_Parse.f kj5 x0_5 a1_0 a1_1 a1_2).bind fun bt329 => (chequerlaw06_HeadReads.l0 kj5 x0_5 bt329.2.2.2.2.1 bt329.2.2.2.2.2 0 t310 t311 t312 t313 t314 t315 t316 t317 t318 t319 t320 t321 t322 t323 t324 t325 t326 t327 bt329.1 bt329.2.1 bt329.2.2.1 bt329.2.2.2.1)) = some r := H
   have A15 := Aside0.mk A150
   clear A150
   replace H := Option.bind_eq_some_iff.mp H
   obtain ⟨⟨t329, t330, t331, t332, t333, t334⟩, A160, H⟩ := H
   replace H : (chequerlaw06_HeadReads.l0 kj5 x0_5 t333 t334 0 t310 t311 t312 t313 t314 t315 t316 t317 t318 t319 t320 t321 t322 t323 t324 t325 t326 t327 t329 t330 t331 t332) = some r := H
   have A16 := Aside0.mk A160
   clear A160
   have H' := Aside0.mk H
   clear H
   have hcz17_0 : wc.cell? ⟨gb306, 0, none⟩ = some (.int .i64 a1_0) := (blk_cell BK306.out 0).trans rfl
   have hcz17_1 : wc.cell? ⟨gb306, 1, none⟩ = some (.int .i64 a1_1) := (blk_cell BK306.out 1).trans rfl
   have hcz17_2 : wc.cell? ⟨gb306, 2, none⟩ = some (.int .i64 a1_2) := (blk_cell BK306.out 2).trans rfl
   have hfz17_0 := blk_frozen BK306.out 0
   have hfz17_1 := blk_frozen BK306.out 1
   have hfz17_2 := blk_frozen BK306.out 2
   go_wp2_with (first | ((with_reducible refine gate_callee (f := 19) rfl ?_); refine goQ_ (some 30) Try.func19 #[.agg #[.int .i64 a1_0, .int .i64 a1_1, .int .i64 a1_2]] ?_; (with_reducible refine (head_New.calls a1_0 a1_1 a1_2 t310 t311 t312 t313 t314 t315 t316 t317 t318 t319 t320 t321 t322 t323 t324 t325 t326 t327 w _ ?side1 A15.out).mono ?_); (case side1 => repeat (first | (with_reducible first | exact HB.out | apply below_alloc | apply pw_below_drewN | apply below_drew1 | refine below_set ?_ GE306.out) | exact HB.out)); rintro e w18 ⟨g328, rfl, hi, hb, hb2⟩; refine ⟨_, rfl, ?_⟩; replace HB := Aside0.mk (hb); have HI328 := Aside0.mk (hi); have NB328_306 := Aside0.mk (IsS77.ne_blk hi (blk_below (hp_ BK306.out) hb2) (by decide)); have NB306_328 := Aside0.mk (Ne.symm (IsS77.ne_blk hi (blk_below (hp_ BK306.out) hb2) (by decide))); replace BK306 := Aside0.mk (blk_below (hp_ BK306.out) hb2); (try clear hb); (try clear hb2); (try clear hk); (try clear hi); have hnb19 := NB306_328.out; have hnc19 := NB328_306.out; have hcz20_0 : w18.cell? ⟨gb306, 0, none⟩ = some (.int .i64 a1_0) := (blk_cell BK306.out 0).trans rfl; have hcz20_1 : w18.cell? ⟨gb306, 1, none⟩ = some (.int .i64 a1_1) := (blk_cell BK306.out 1).trans rfl; have hcz20_2 : w18.cell? ⟨gb306, 2, none⟩ = some (.int .i64 a1_2) := (blk_cell BK306.out 2).trans rfl; have hfz20_0 := blk_frozen BK306.out 0; have hfz20_1 := blk_frozen BK306.out 1; have hfz20_2 := blk_frozen BK306.out 2) | ((with_reducible refine gate_callee (f := 16) rfl ?_); refine goQ_ (some 36) Try.func16 #[.string x0_5, .agg #[.int .i64 a1_0, .int .i64 a1_1, .int .i64 a1_2]] ?_; (with_reducible refine (chequerref06_Parse.calls kj5 x0_5 a1_0 a1_1 a1_2 t329 t330 t331 t332 t333 t334 _ A16.out).mono ?_); rintro e w21 ⟨rfl, hb⟩; refine ⟨_, rfl, ?_⟩; replace HB := Aside0.mk (below_step (by repeat (first | (with_reducible first | exact HB.out | apply below_alloc | apply pw_below_drewN | apply below_drew1 | refine below_set ?_ (IsS77.ge HI328.out)) | exact HB.out)) hb); replace HI328 := Aside0.mk (IsS77.below (by repeat (first | (with_reducible first | exact HI328.out | apply IsS77.alloc | apply IsS77.drewN | apply IsS77.drew | apply IsS77.set_0 | apply IsS77.set_1 | apply IsS77.set_2 | apply IsS77.set_3 | apply IsS77.set_4 | apply IsS77.set_5 | apply IsS77.set_6 | apply IsS77.set_7 | apply IsS77.set_8 | apply IsS77.set_9 | apply IsS77.set_10 | apply IsS77.set_11 | apply IsS77.set_12 | apply IsS77.set_13 | apply IsS77.set_14 | apply IsS77.set_15 | apply IsS77.set_16 | apply IsS77.set_17) | exact HI328.out)) hb); (try clear hb); (try clear hb2); (try clear hk); (try clear hi)) | ((with_reducible refine gate_dst (N := 10) rfl ?_); refine box_event ?hg (N := 10) ?hd (cs := #[.int .i64 0, .int .i64 0, .int .i64 0, .int .i64 0]) (t := 25) ?hr ?_; (case hd => rfl); (case hg => rfl); (case hr => first | (go_simp; done) | (go_simp; rfl)); intro gb335 hg w22 hbox hb; have BK335 := Aside0.mk (hbox); have GW335 := Aside0.mk ((by rw [hg]; exact (below_size (by repeat (first | (with_reducible first | exact HB.out | apply below_alloc | apply pw_below_drewN | apply below_drew1 | refine below_set ?_ (IsS77.ge HI328.out)) | exact HB.out))) : w.heap.size ≤ gb335)); have GE335 := Aside0.mk ((by rw [hg]; exact (below_size (by repeat (first | (with_reducible first | exact HB.out | apply below_alloc | apply pw_below_drewN | apply below_drew1 | refine below_set ?_ (IsS77.ge HI328.out)) | exact HB.out))) : w.heap.size ≤ gb335)); replace HB := Aside0.mk (below_step (by repeat (first | (with_reducible first | exact HB.out | apply below_alloc | apply pw_below_drewN | apply below_drew1 | refine below_set ?_ (IsS77.ge HI328.out)) | exact HB.out)) hb); have NB328_335 := Aside0.mk ((by rw [hg]; exact Nat.ne_of_lt (IsS77.lt (show IsS77 w _ g328 t310 t311 t312 t313 t314 t315 t316 t317 t318 t319 t320 t321 t322 t323 t324 t325 t326 t327 from by repeat (first | (with_reducible first | exact HI328.out | apply IsS77.alloc | apply IsS77.drewN | apply IsS77.drew | apply IsS77.set_0 | apply IsS77.set_1 | apply IsS77.set_2 | apply IsS77.set_3 | apply IsS77.set_4 | apply IsS77.set_5 | apply IsS77.set_6 | apply IsS77.set_7 | apply IsS77.set_8 | apply IsS77.set_9 | apply IsS77.set_10 | apply IsS77.set_11 | apply IsS77.set_12 | apply IsS77.set_13 | apply IsS77.set_14 | apply IsS77.set_15 | apply IsS77.set_16 | apply IsS77.set_17) | exact HI328.out))) : g328 ≠ gb335)); have NB335_328 := Aside0.mk ((by rw [hg]; exact Nat.ne_of_gt (IsS77.lt (show IsS77 w _ g328 t310 t311 t312 t313 t314 t315 t316 t317 t318 t319 t320 t321 t322 t323 t324 t325 t326 t327 from by repeat (first | (with_reducible first | exact HI328.out | apply IsS77.alloc | apply IsS77.drewN | apply IsS77.drew | apply IsS77.set_0 | apply IsS77.set_1 | apply IsS77.set_2 | apply IsS77.set_3 | apply IsS77.set_4 | apply IsS77.set_5 | apply IsS77.set_6 | apply IsS77.set_7 | apply IsS77.set_8 | apply IsS77.set_9 | apply IsS77.set_10 | apply IsS77.set_11 | apply IsS77.set_12 | apply IsS77.set_13 | apply IsS77.set_14 | apply IsS77.set_15 | apply IsS77.set_16 | apply IsS77.set_17) | exact HI328.out))) : gb335 ≠ g328)); replace HI328 := Aside0.mk (IsS77.below (by repeat (first | (with_reducible first | exact HI328.out | apply IsS77.alloc | apply IsS77.drewN | apply IsS77.drew | apply IsS77.set_0 | apply IsS77.set_1 | apply IsS77.set_2 | apply IsS77.set_3 | apply IsS77.set_4 | apply IsS77.set_5 | apply IsS77.set_6 | apply IsS77.set_7 | apply IsS77.set_8 | apply IsS77.set_9 | apply IsS77.set_10 | apply IsS77.set_11 | apply IsS77.set_12 | apply IsS77.set_13 | apply IsS77.set_14 | apply IsS77.set_15 | apply IsS77.set_16 | apply IsS77.set_17) | exact HI328.out)) hb); clear hb hbox hg; have hnb23 := NB335_328.out; have hnc23 := NB328_335.out; have hcz24_0 : w22.cell? ⟨gb335, 0, none⟩ = some (.int .i64 0) := (blk_cell BK335.out 0).trans rfl; have hcz24_1 : w22.cell? ⟨gb335, 1, none⟩ = some (.int .i64 0) := (blk_cell BK335.out 1).trans rfl; have hcz24_2 : w22.cell? ⟨gb335, 2, none⟩ = some (.int .i64 0) := (blk_cell BK335.out 2).trans rfl; have hcz24_3 : w22.cell? ⟨gb335, 3, none⟩ = some (.int .i64 0) := (blk_cell BK335.out 3).trans rfl; have hfz24_0 := blk_frozen BK335.out 0; have hfz24_1 := blk_frozen BK335.out 1; have hfz24_2 := blk_frozen BK335.out 2; have hfz24_3 := blk_frozen BK335.out 3))
   go_loopg [13] kj5 (fun kq v13 w' => ∃ (x13_2 : Int) (x329000_2 : Int) (x329001_2 : Int) (x329002_2 : Int) (x329003_2 : Int) (x329004_2 : Int) (x329005_2 : Int) (x329006_2 : Int) (x329007_2 : Int) (x329008_2 : Int) (x329009_2 : Bool) (x329010_2 : Int) (x329011_2 : Int) (x329012_2 : Int) (x329013_2 : Bool) (x329014_2 : Int) (x329015_2 : Int) (x329016_2 : Int) (x329017_2 : Int), v13 = .int .i64 x13_2 ∧ Aside0 (chequerlaw06_HeadReads.l0 kq x0_5 t333 t334 x13_2 x329000_2 x329001_2 x329002_2 x329003_2 x329004_2 x329005_2 x329006_2 x329007_2 x329008_2 x329009_2 x329010_2 x329011_2 x329012_2 x329013_2 x329014_2 x329015_2 x329016_2 x329017_2 t329 t330 t331 t332 = some r) ∧ Aside0 (kq ≤ kj5) ∧ Aside0 (w'.heap[gb335]? = some (.cells #[.int .i64 t329, .int .i64 t330, .int .i64 t331, .int .i64 t332] 25 (0, 0))) ∧ Aside0 (IsS77 w w' g328 x329000_2 x329001_2 x329002_2 x329003_2 x329004_2 x329005_2 x329006_2 x329007_2 x329008_2 x329009_2 x329010_2 x329011_2 x329012_2 x329013_2 x329014_2 x329015_2 x329016_2 x329017_2) ∧ Aside0 (Below w.heap.size w w'))
   case atStart => exact ⟨(0), (t310), (t311), (t312), (t313), (t314), (t315), (t316), (t317), (t318), (t319), (t320), (t321), (t322), (t323), (t324), (t325), (t326), (t327), (by first | rfl | (simp; done) | (simp [*]; done)), H', ⟨Nat.le_refl _⟩, ⟨by (with_reducible repeat (first | refine blk_drewN ?_ _ | refine blk_drew ?_ | refine blk_alloc ?_ _)); refine blk_put (cs := #[.int .i64 t329, .int .i64 t330, .int .i64 t331, .int .i64 0]) ?_ 3 _ rfl; (with_reducible repeat (first | refine blk_drewN ?_ _ | refine blk_drew ?_ | refine blk_alloc ?_ _)); refine blk_put (cs := #[.int .i64 t329, .int .i64 t330, .int .i64 0, .int .i64 0]) ?_ 2 _ rfl; (with_reducible repeat (first | refine blk_drewN ?_ _ | refine blk_drew ?_ | refine blk_alloc ?_ _)); refine blk_put (cs := #[.int .i64 t329, .int .i64 0, .int .i64 0, .int .i64 0]) ?_ 1 _ rfl; (with_reducible repeat (first | refine blk_drewN ?_ _ | refine blk_drew ?_ | refine blk_alloc ?_ _)); refine blk_put (cs := #[.int .i64 0, .int .i64 0, .int .i64 0, .int .i64 0]) ?_ 0 _ rfl; (with_reducible repeat (first | refine blk_drewN ?_ _ | refine blk_drew ?_ | refine blk_alloc ?_ _)); exact BK335.out⟩, ⟨by repeat (first | (with_reducible first | exact HI328.out | apply IsS77.alloc | apply IsS77.drewN | apply IsS77.drew | apply IsS77.set_0 | apply IsS77.set_1 | apply IsS77.set_2 | apply IsS77.set_3 | apply IsS77.set_4 | apply IsS77.set_5 | apply IsS77.set_6 | apply IsS77.set_7 | apply IsS77.set_8 | apply IsS77.set_9 | apply IsS77.set_10 | apply IsS77.set_11 | apply IsS77.set_12 | apply IsS77.set_13 | apply IsS77.set_14 | apply IsS77.set_15 | apply IsS77.set_16 | apply IsS77.set_17 | refine IsS77.far2 ?_ (by repeat (first | exact isTyR_of BK335.out | apply isTy_set | apply isTy_drewN | apply isTy_drew | apply isTy_alloc)) (by decide)) | exact HI328.out)⟩, ⟨by repeat (first | (with_reducible first | exact HB.out | apply below_alloc | apply pw_below_drewN | apply below_drew1 | refine below_set ?_ (IsS77.ge HI328.out) | refine below_set ?_ GE335.out) | exact HB.out)⟩⟩
   case round =>
    clear H'
    try clear c1
    try clear c2
    try clear p2
    try clear c4
    try clear p6
    try clear c8
    try clear c9
    try clear c11
    try clear c11b0
    try clear c11b1
    try clear c11b2
    try clear c12
    try clear c12b0
    try clear c12b1
    try clear c12b2
    try clear c13
    try clear c13b0
    try clear c13b1
    try clear c13b2
    try clear c16
    try clear c18
    try clear c19
    try clear c23
    try clear hcz17_0
    try clear hcz17_1
    try clear hcz17_2
    try clear hcz20_0
    try clear hcz20_1
    try clear hcz20_2
    try clear hcz24_0
    try clear hcz24_1
    try clear hcz24_2
    try clear hcz24_3
    try clear hfz17_0
    try clear hfz17_1
    try clear hfz17_2
    try clear hfz20_0
    try clear hfz20_1
    try clear hfz20_2
    try clear hfz24_0
    try clear hfz24_1
    try clear hfz24_2
    try clear hfz24_3
    try clear p2
    try clear p6
    obtain ⟨x13_2, x329000_2, x329001_2, x329002_2, x329003_2, x329004_2, x329005_2, x329006_2, x329007_2, x329008_2, x329009_2, x329010_2, x329011_2, x329012_2, x329013_2, x329014_2, x329015_2, x329016_2, x329017_2, rfl, HA, HK2, BK335, HI328, HB⟩ := hrel
    cases gk with
    | zero => exact absurd HA.out (by simp [chequerlaw06_HeadReads.l0])
    | succ k2 =>
     have H := HA.out
     clear HA
     simp only [chequerlaw06_HeadReads.l0] at H
     by_cases c25 : x13_2 < (x0_5.size : Int)
     · rw [if_pos c25] at H
       have c25b0 : decide (x13_2 < (x0_5.size : Int)) = true := decide_eq_true c25
       clear c25
       have HC26 := Aside0.mk H
       clear H
       go_upto_region 12 with (fail)
       go_cut [53] (fun v53 wc => ∃ (kq : Nat) (x53_25 : Bool), v53 = .bool x53_25 ∧ Aside0 (chequerlaw06_HeadReads.j2 kq x0_5 t333 t334 x13_2 0 x53_25 x329000_2 x329001_2 x329002_2 x329003_2 x329004_2 x329005_2 x329006_2 x329007_2 x329008_2 x329009_2 x329010_2 x329011_2 x329012_2 x329013_2 x329014_2 x329015_2 x329016_2 x329017_2 t329 t330 t331 t332 = some r) ∧ Aside0 (kq ≤ k2) ∧ Aside0 (wc.heap[gb335]? = some (.cells #[.int .i64 t329, .int .i64 t330, .int .i64 t331, .int .i64 t332] 25 (0, 0))) ∧ Aside0 (IsS77 w wc g328 x329000_2 x329001_2 x329002_2 x329003_2 x329004_2 x329005_2 x329006_2 x329007_2 x329008_2 x329009_2 x329010_2 x329011_2 x329012_2 x329013_2 x329014_2 x329015_2 x329016_2 x329017_2) ∧ Aside0 (Below w.heap.size w wc))
       case first =>
        have H := HC26.out
        clear HC26
        by_cases c27 : (wrap64 (x13_2 + 1)) ≥ t333
        · rw [if_pos c27] at H
          have c27b0 : decide (t333 ≤ (wrap64 (x13_2 + 1))) = true := decide_eq_true c27
          clear c27
          (first | rw [c27b0] | (simp only [i64_w, i32_w]; rw [c27b0]) | skip)
          have H' := Aside0.mk H
          clear H
          go_wp2
          go_meet
          case rel => exact ⟨_, ((t334 == 0)), (by first | rfl | (simp; done) | (simp [*]; done)), H', ⟨by have := HJ5.out; have := HK2.out; first | omega | exact Nat.le_refl _⟩, ⟨hp_ BK335.out⟩, ⟨by repeat (first | (with_reducible first | exact HI328.out | apply IsS77.alloc | apply IsS77.drewN | apply IsS77.drew | apply IsS77.set_0 | apply IsS77.set_1 | apply IsS77.set_2 | apply IsS77.set_3 | apply IsS77.set_4 | apply IsS77.set_5 | apply IsS77.set_6 | apply IsS77.set_7 | apply IsS77.set_8 | apply IsS77.set_9 | apply IsS77.set_10 | apply IsS77.set_11 | apply IsS77.set_12 | apply IsS77.set_13 | apply IsS77.set_14 | apply IsS77.set_15 | apply IsS77.set_16 | apply IsS77.set_17 | refine IsS77.far2 ?_ (by repeat (first | exact isTyR_of BK335.out | apply isTy_set | apply isTy_drewN | apply isTy_drew | apply isTy_alloc)) (by decide)) | exact HI328.out)⟩, ⟨by repeat (first | (with_reducible first | exact HB.out | apply below_alloc | apply pw_below_drewN | apply below_drew1 | refine below_set ?_ (IsS77.ge HI328.out) | refine below_set ?_ GE335.out) | exact HB.out)⟩⟩
        · rw [if_neg c27] at H
          have c27b0 : decide (t333 ≤ (wrap64 (x13_2 + 1))) = false := decide_eq_false c27
          clear c27
          (first | rw [c27b0] | (simp only [i64_w, i32_w]; rw [c27b0]) | skip)
          have H' := Aside0.mk H
          clear H
          go_wp2
          go_meet
          case rel => exact ⟨_, (false), (by first | rfl | (simp; done) | (simp [*]; done)), H', ⟨by have := HJ5.out; have := HK2.out; first | omega | exact Nat.le_refl _⟩, ⟨hp_ BK335.out⟩, ⟨by repeat (first | (with_reducible first | exact HI328.out | apply IsS77.alloc | apply IsS77.drewN | apply IsS77.drew | apply IsS77.set_0 | apply IsS77.set_1 | apply IsS77.set_2 | apply IsS77.set_3 | apply IsS77.set_4 | apply IsS77.set_5 | apply IsS77.set_6 | apply IsS77.set_7 | apply IsS77.set_8 | apply IsS77.set_9 | apply IsS77.set_10 | apply IsS77.set_11 | apply IsS77.set_12 | apply IsS77.set_13 | apply IsS77.set_14 | apply IsS77.set_15 | apply IsS77.set_16 | apply IsS77.set_17 | refine IsS77.far2 ?_ (by repeat (first | exact isTyR_of BK335.out | apply isTy_set | apply isTy_drewN | apply isTy_drew | apply isTy_alloc)) (by decide)) | exact HI328.out)⟩, ⟨by repeat (first | (with_reducible first | exact HB.out | apply below_alloc | apply pw_below_drewN | apply below_drew1 | refine below_set ?_ (IsS77.ge HI328.out) | refine below_set ?_ GE335.out) | exact HB.out)⟩⟩
       case rest =>
        clear HC26
        try clear c1
        try clear c2
        try clear p2
        try clear c4
        try clear p6
        try clear c8
        try clear c9
        try clear c11
        try clear c11b0
        try clear c11b1
        try clear c11b2
        try clear c12
        try clear c12b0
        try clear c12b1
        try clear c12b2
        try clear c13
        try clear c13b0
        try clear c13b1
        try clear c13b2
        try clear c16
        try clear c18
        try clear c19
        try clear c23
        try clear c25
        try clear c25b0
        try clear c27
        try clear c27b0
        try clear hcz17_0
        try clear hcz17_1
        try clear hcz17_2
        try clear hcz20_0
        try clear hcz20_1
        try clear hcz20_2
        try clear hcz24_0
        try clear hcz24_1
        try clear hcz24_2
        try clear hcz24_3
        try clear hfz17_0
        try clear hfz17_1
        try clear hfz17_2
        try clear hfz20_0
        try clear hfz20_1
        try clear hfz20_2
        try clear hfz24_0
        try clear hfz24_1
        try clear hfz24_2
        try clear hfz24_3
        try clear p2
        try clear p6
        obtain ⟨kq, x53_25, rfl, HA, HJ25, BK335, HI328, HB⟩ := hcut
        cases kq with
        | zero => exact absurd HA.out (by simp [chequerlaw06_HeadReads.j2])
        | succ kj25 =>
         have H := HA.out
         clear HA
         simp only [chequerlaw06_HeadReads.j2] at H
         have HC28 := Aside0.mk H
         clear H
         go_upto_if 53 with (fail)
         go_cut [14] (fun v14 wc => ∃ (kq : Nat) (x14_27 : Int), v14 = .int .i64 x14_27 ∧ Aside0 (chequerlaw06_HeadReads.j3 kq x0_5 t333 t334 x13_2 x14_27 x329000_2 x329001_2 x329002_2 x329003_2 x329004_2 x329005_2 x329006_2 x329007_2 x329008_2 x329009_2 x329010_2 x329011_2 x329012_2 x329013_2 x329014_2 x329015_2 x329016_2 x329017_2 t329 t330 t331 t332 = some r) ∧ Aside0 (kq ≤ kj25) ∧ Aside0 (wc.heap[gb335]? = some (.cells #[.int .i64 t329, .int .i64 t330, .int .i64 t331, .int .i64 t332] 25 (0, 0))) ∧ Aside0 (IsS77 w wc g328 x329000_2 x329001_2 x329002_2 x329003_2 x329004_2 x329005_2 x329006_2 x329007_2 x329008_2 x329009_2 x329010_2 x329011_2 x329012_2 x329013_2 x329014_2 x329015_2 x329016_2 x329017_2) ∧ Aside0 (Below w.heap.size w wc))
         case first =>
          have H := HC28.out
          clear HC28
          by_cases c29 : x53_25 = true
          · subst c29
            have H1 : (chequerlaw06_HeadReads.j3 kj25 x0_5 t333 t334 x13_2 1 x329000_2 x329001_2 x329002_2 x329003_2 x329004_2 x329005_2 x329006_2 x329007_2 x329008_2 x329009_2 x329010_2 x329011_2 x329012_2 x329013_2 x329014_2 x329015_2 x329016_2 x329017_2 t329 t330 t331 t332) = some r := by rw [if_pos rfl] at H; exact H
            clear H
            have H := H1
            clear H1
            have H' := Aside0.mk H
            clear H
            go_wp2
            go_meet
            case rel => exact ⟨_, (1), (by first | rfl | (simp; done) | (simp [*]; done)), H', ⟨by have := HJ5.out; have := HK2.out; have := HJ25.out; first | omega | exact Nat.le_refl _⟩, ⟨hp_ BK335.out⟩, ⟨by repeat (first | (with_reducible first | exact HI328.out | apply IsS77.alloc | apply IsS77.drewN | apply IsS77.drew | apply IsS77.set_0 | apply IsS77.set_1 | apply IsS77.set_2 | apply IsS77.set_3 | apply IsS77.set_4 | apply IsS77.set_5 | apply IsS77.set_6 | apply IsS77.set_7 | apply IsS77.set_8 | apply IsS77.set_9 | apply IsS77.set_10 | apply IsS77.set_11 | apply IsS77.set_12 | apply IsS77.set_13 | apply IsS77.set_14 | apply IsS77.set_15 | apply IsS77.set_16 | apply IsS77.set_17 | refine IsS77.far2 ?_ (by repeat (first | exact isTyR_of BK335.out | apply isTy_set | apply isTy_drewN | apply isTy_drew | apply isTy_alloc)) (by decide)) | exact HI328.out)⟩, ⟨by repeat (first | (with_reducible first | exact HB.out | apply below_alloc | apply pw_below_drewN | apply below_drew1 | refine below_set ?_ (IsS77.ge HI328.out) | refine below_set ?_ GE335.out) | exact HB.out)⟩⟩
          · replace c29 := Bool.eq_false_iff.mpr c29
            subst c29
            have H1 : (chequerlaw06_HeadReads.j3 kj25 x0_5 t333 t334 x13_2 0 x329000_2 x329001_2 x329002_2 x329003_2 x329004_2 x329005_2 x329006_2 x329007_2 x329008_2 x329009_2 x329010_2 x329011_2 x329012_2 x329013_2 x329014_2 x329015_2 x329016_2 x329017_2 t329 t330 t331 t332) = some r := by rw [if_neg (show ¬ (false = true) by decide)] at H; exact H
            clear H
            have H := H1
            clear H1
            have H' := Aside0.mk H
            clear H
            go_wp2
            go_meet
            case rel => exact ⟨_, (0), (by first | rfl | (simp; done) | (simp [*]; done)), H', ⟨by have := HJ5.out; have := HK2.out; have := HJ25.out; first | omega | exact Nat.le_refl _⟩, ⟨hp_ BK335.out⟩, ⟨by repeat (first | (with_reducible first | exact HI328.out | apply IsS77.alloc | apply IsS77.drewN | apply IsS77.drew | apply IsS77.set_0 | apply IsS77.set_1 | apply IsS77.set_2 | apply IsS77.set_3 | apply IsS77.set_4 | apply IsS77.set_5 | apply IsS77.set_6 | apply IsS77.set_7 | apply IsS77.set_8 | apply IsS77.set_9 | apply IsS77.set_10 | apply IsS77.set_11 | apply IsS77.set_12 | apply IsS77.set_13 | apply IsS77.set_14 | apply IsS77.set_15 | apply IsS77.set_16 | apply IsS77.set_17 | refine IsS77.far2 ?_ (by repeat (first | exact isTyR_of BK335.out | apply isTy_set | apply isTy_drewN | apply isTy_drew | apply isTy_alloc)) (by decide)) | exact HI328.out)⟩, ⟨by repeat (first | (with_reducible first | exact HB.out | apply below_alloc | apply pw_below_drewN | apply below_drew1 | refine below_set ?_ (IsS77.ge HI328.out) | refine below_set ?_ GE335.out) | exact HB.out)⟩⟩
         case rest =>
          clear HC28
          try clear c1
          try clear c2
          try clear p2
          try clear c4
          try clear p6
          try clear c8
          try clear c9
          try clear c11
          try clear c11b0
          try clear c11b1
          try clear c11b2
          try clear c12
          try clear c12b0
          try clear c12b1
          try clear c12b2
          try clear c13
          try clear c13b0
          try clear c13b1
          try clear c13b2
          try clear c16
          try clear c18
          try clear c19
          try clear c23
          try clear c25
          try clear c25b0
          try clear c27
          try clear c27b0
          try clear c29
          try clear hcz17_0
          try clear hcz17_1
          try clear hcz17_2
          try clear hcz20_0
          try clear hcz20_1
          try clear hcz20_2
          try clear hcz24_0
          try clear hcz24_1
          try clear hcz24_2
          try clear hcz24_3
          try clear hfz17_0
          try clear hfz17_1
          try clear hfz17_2
          try clear hfz20_0
          try clear hfz20_1
          try clear hfz20_2
          try clear hfz24_0
          try clear hfz24_1
          try clear hfz24_2
          try clear hfz24_3
          try clear p2
          try clear p6
          obtain ⟨kq, x14_27, rfl, HA, HJ27, BK335, HI328, HB⟩ := hcut
          cases kq with
          | zero => exact absurd HA.out (by simp [chequerlaw06_HeadReads.j3])
          | succ kj27 =>
           have H := HA.out
           clear HA
           simp only [chequerlaw06_HeadReads.j3] at H
           have HC30 := Aside0.mk H
           clear H
           go_upto_region 14 with (fail)
           go_cut [65] (fun v65 wc => ∃ (kq : Nat) (x65_29 : Bool), v65 = .bool x65_29 ∧ Aside0 (chequerlaw06_HeadReads.j4 kq x0_5 t333 t334 x13_2 x14_27 x65_29 x329000_2 x329001_2 x329002_2 x329003_2 x329004_2 x329005_2 x329006_2 x329007_2 x329008_2 x329009_2 x329010_2 x329011_2 x329012_2 x329013_2 x329014_2 x329015_2 x329016_2 x329017_2 t329 t330 t331 t332 = some r) ∧ Aside0 (kq ≤ kj27) ∧ Aside0 (wc.heap[gb335]? = some (.cells #[.int .i64 t329, .int .i64 t330, .int .i64 t331, .int .i64 t332] 25 (0, 0))) ∧ Aside0 (IsS77 w wc g328 x329000_2 x329001_2 x329002_2 x329003_2 x329004_2 x329005_2 x329006_2 x329007_2 x329008_2 x329009_2 x329010_2 x329011_2 x329012_2 x329013_2 x329014_2 x329015_2 x329016_2 x329017_2) ∧ Aside0 (Below w.heap.size w wc))
           case first =>
            have H := HC30.out
            clear HC30
            by_cases c31 : (wrap64 (x13_2 + 1)) ≥ t333
            · rw [if_pos c31] at H
              have c31b0 : decide (t333 ≤ (wrap64 (x13_2 + 1))) = true := decide_eq_true c31
              clear c31
              (first | rw [c31b0] | (simp only [i64_w, i32_w]; rw [c31b0]) | skip)
              by_cases c32 : t334 = 0
              · rw [if_pos c32] at H
                have c32b0 : (t334 == 0) = true := beq_iff_eq.mpr c32
                have c32b1 : (t334 != 0) = false := bne_eq_false_iff_eq.mpr c32
                clear c32
                have H' := Aside0.mk H
                clear H
                go_wp2
                go_meet
                case rel => exact ⟨_, (false), (by first | rfl | (simp; done) | (simp [*]; done)), H', ⟨by have := HJ5.out; have := HK2.out; have := HJ25.out; have := HJ27.out; first | omega | exact Nat.le_refl _⟩, ⟨hp_ BK335.out⟩, ⟨by repeat (first | (with_reducible first | exact HI328.out | apply IsS77.alloc | apply IsS77.drewN | apply IsS77.drew | apply IsS77.set_0 | apply IsS77.set_1 | apply IsS77.set_2 | apply IsS77.set_3 | apply IsS77.set_4 | apply IsS77.set_5 | apply IsS77.set_6 | apply IsS77.set_7 | apply IsS77.set_8 | apply IsS77.set_9 | apply IsS77.set_10 | apply IsS77.set_11 | apply IsS77.set_12 | apply IsS77.set_13 | apply IsS77.set_14 | apply IsS77.set_15 | apply IsS77.set_16 | apply IsS77.set_17 | refine IsS77.far2 ?_ (by repeat (first | exact isTyR_of BK335.out | apply isTy_set | apply isTy_drewN | apply isTy_drew | apply isTy_alloc)) (by decide)) | exact HI328.out)⟩, ⟨by repeat (first | (with_reducible first | exact HB.out | apply below_alloc | apply pw_below_drewN | apply below_drew1 | refine below_set ?_ (IsS77.ge HI328.out) | refine below_set ?_ GE335.out) | exact HB.out)⟩⟩
              · rw [if_neg c32] at H
                have c32b0 : (t334 == 0) = false := beq_eq_false_iff_ne.mpr c32
                have c32b1 : (t334 != 0) = true := bne_iff_ne.mpr c32
                have H' := Aside0.mk H
                clear H
                go_wp2
                go_meet
                case rel => exact ⟨_, ((t334 != 6)), (by first | rfl | (simp; done) | (simp [*]; done)), H', ⟨by have := HJ5.out; have := HK2.out; have := HJ25.out; have := HJ27.out; first | omega | exact Nat.le_refl _⟩, ⟨hp_ BK335.out⟩, ⟨by repeat (first | (with_reducible first | exact HI328.out | apply IsS77.alloc | apply IsS77.drewN | apply IsS77.drew | apply IsS77.set_0 | apply IsS77.set_1 | apply IsS77.set_2 | apply IsS77.set_3 | apply IsS77.set_4 | apply IsS77.set_5 | apply IsS77.set_6 | apply IsS77.set_7 | apply IsS77.set_8 | apply IsS77.set_9 | apply IsS77.set_10 | apply IsS77.set_11 | apply IsS77.set_12 | apply IsS77.set_13 | apply IsS77.set_14 | apply IsS77.set_15 | apply IsS77.set_16 | apply IsS77.set_17 | refine IsS77.far2 ?_ (by repeat (first | exact isTyR_of BK335.out | apply isTy_set | apply isTy_drewN | apply isTy_drew | apply isTy_alloc)) (by decide)) | exact HI328.out)⟩, ⟨by repeat (first | (with_reducible first | exact HB.out | apply below_alloc | apply pw_below_drewN | apply below_drew1 | refine below_set ?_ (IsS77.ge HI328.out) | refine below_set ?_ GE335.out) | exact HB.out)⟩⟩
            · rw [if_neg c31] at H
              have c31b0 : decide (t333 ≤ (wrap64 (x13_2 + 1))) = false := decide_eq_false c31
              clear c31
              (first | rw [c31b0] | (simp only [i64_w, i32_w]; rw [c31b0]) | skip)
              have H' := Aside0.mk H
              clear H
              go_wp2
              go_meet
              case rel => exact ⟨_, (false), (by first | rfl | (simp; done) | (simp [*]; done)), H', ⟨by have := HJ5.out; have := HK2.out; have := HJ25.out; have := HJ27.out; first | omega | exact Nat.le_refl _⟩, ⟨hp_ BK335.out⟩, ⟨by repeat (first | (with_reducible first | exact HI328.out | apply IsS77.alloc | apply IsS77.drewN | apply IsS77.drew | apply IsS77.set_0 | apply IsS77.set_1 | apply IsS77.set_2 | apply IsS77.set_3 | apply IsS77.set_4 | apply IsS77.set_5 | apply IsS77.set_6 | apply IsS77.set_7 | apply IsS77.set_8 | apply IsS77.set_9 | apply IsS77.set_10 | apply IsS77.set_11 | apply IsS77.set_12 | apply IsS77.set_13 | apply IsS77.set_14 | apply IsS77.set_15 | apply IsS77.set_16 | apply IsS77.set_17 | refine IsS77.far2 ?_ (by repeat (first | exact isTyR_of BK335.out | apply isTy_set | apply isTy_drewN | apply isTy_drew | apply isTy_alloc)) (by decide)) | exact HI328.out)⟩, ⟨by repeat (first | (with_reducible first | exact HB.out | apply below_alloc | apply pw_below_drewN | apply below_drew1 | refine below_set ?_ (IsS77.ge HI328.out) | refine below_set ?_ GE335.out) | exact HB.out)⟩⟩
           case rest =>
            clear HC30
            try clear c1
            try clear c2
            try clear p2
            try clear c3
            try clear c4
            try clear p6
            try clear c8
            try clear c9
            try clear c11
            try clear c11b0
            try clear c11b1
            try clear c11b2
            try clear c12
            try clear c12b0
            try clear c12b1
            try clear c12b2
            try clear c13
            try clear c13b0
            try clear c13b1
            try clear c13b2
            try clear c16
            try clear c18
            try clear c19
            try clear c23
            try clear c25
            try clear c25b0
            try clear c27
            try clear c27b0
            try clear c29
            try clear c31
            try clear c31b0
            try clear c32
            try clear c32b0
            try clear c32b1
            try clear hcz17_0
            try clear hcz17_1
            try clear hcz17_2
            try clear hcz20_0
            try clear hcz20_1
            try clear hcz20_2
            try clear hcz24_0
            try clear hcz24_1
            try clear hcz24_2
            try clear hcz24_3
            try clear hfz17_0
            try clear hfz17_1
            try clear hfz17_2
            try clear hfz20_0
            try clear hfz20_1
            try clear hfz20_2
            try clear hfz24_0
            try clear hfz24_1
            try clear hfz24_2
            try clear hfz24_3
            try clear p2
            try clear p6
            obtain ⟨kq, x65_29, rfl, HA, HJ29, BK335, HI328, HB⟩ := hcut
            cases kq with
            | zero => exact absurd HA.out (by simp [chequerlaw06_HeadReads.j4])
            | succ kj29 =>
             have H := HA.out
             clear HA
             simp only [chequerlaw06_HeadReads.j4] at H
             by_cases c33 : x65_29 = true
             · subst c33
               have H1 : (if 0 ≤ x13_2 then (if x13_2 < (x0_5.size : Int) then ((head_Reader_Put.f x329000_2 x329001_2 x329002_2 x329003_2 x329004_2 x329005_2 x329006_2 x329007_2 x329008_2 x329009_2 x329010_2 x329011_2 x329012_2 x329013_2 x329014_2 x329015_2 x329016_2 x329017_2 (bt x0_5 x13_2)).bind fun bt336 => (if bt336.1 = 2 then (chequerlaw06_HeadReads.l0 kj29 x0_5 t333 t334 (wrap64 (x13_2 + 1)) bt336.2.1 bt336.2.2.1 bt336.2.2.2.1 bt336.2.2.2.2.1 bt336.2.2.2.2.2.1 bt336.2.2.2.2.2.2.1 bt336.2.2.2.2.2.2.2.1 bt336.2.2.2.2.2.2.2.2.1 bt336.2.2.2.2.2.2.2.2.2.1 bt336.2.2.2.2.2.2.2.2.2.2.1 bt336.2.2.2.2.2.2.2.2.2.2.2.1 bt336.2.2.2.2.2.2.2.2.2.2.2.2.1 bt336.2.2.2.2.2.2.2.2.2.2.2.2.2.1 bt336.2.2.2.2.2.2.2.2.2.2.2.2.2.2.1 bt336.2.2.2.2.2.2.2.2.2.2.2.2.2.2.2.1 bt336.2.2.2.2.2.2.2.2.2.2.2.2.2.2.2.2.1 bt336.2.2.2.2.2.2.2.2.2.2.2.2.2.2.2.2.2.1 bt336.2.2.2.2.2.2.2.2.2.2.2.2.2.2.2.2.2.2 t329 t330 t331 t332) else (some false))) else (none)) else (none)) = some r := by rw [if_pos rfl] at H; exact H
               clear H
               have H := H1
               clear H1
               by_cases c34 : 0 ≤ x13_2
               · rw [if_pos c34] at H
                 have c34b0 : decide (0 ≤ x13_2) = true := decide_eq_true c34
                 clear c34
                 by_cases c35 : x13_2 < (x0_5.size : Int)
                 · rw [if_pos c35] at H
                   have c35b0 : decide (x13_2 < (x0_5.size : Int)) = true := decide_eq_true c35
                   clear c35
                   replace H := Option.bind_eq_some_iff.mp H
                   obtain ⟨⟨t336, t337, t338, t339, t340, t341, t342, t343, t344, t345, t346, t347, t348, t349, t350, t351, t352, t353, t354⟩, A370, H⟩ := H
                   replace H : (if t336 = 2 then (chequerlaw06_HeadReads.l0 kj29 x0_5 t333 t334 (wrap64 (x13_2 + 1)) t337 t338 t339 t340 t341 t342 t343 t344 t345 t346 t347 t348 t349 t350 t351 t352 t353 t354 t329 t330 t331 t332) else (some false)) = some r := H
                   have A37 := Aside0.mk A370
                   clear A370
                   by_cases c38 : t336 = 2
                   · rw [if_pos c38] at H
                     have c38b0 : (t336 == 2) = true := beq_iff_eq.mpr c38
                     have c38b1 : (t336 != 2) = false := bne_eq_false_iff_eq.mpr c38
                     clear c38
                     have H' := Aside0.mk H
                     clear H
                     have p36 : 0 ≤ (x13_2 : Int) := of_decide_eq_true (by first | (with_reducible assumption) | assumption)
                     have q36 : x13_2 < (x0_5.size : Int) := of_decide_eq_true (by first | (with_reducible assumption) | assumption)
                     have hx36 := bt_at x0_5 x13_2
                     replace p36 := eq_true p36
                     replace q36 := eq_true q36
                     go_wp2_with (first | ((with_reducible refine gate_callee (f := 20) rfl ?_); refine goQ_ (some 70) Try.func20 #[.pointer (some ⟨g328, 0, none⟩), .int .u8 (bt x0_5 x13_2)] ?_; (with_reducible refine (head_Reader_Put.calls g328 x329000_2 x329001_2 x329002_2 x329003_2 x329004_2 x329005_2 x329006_2 x329007_2 x329008_2 x329009_2 x329010_2 x329011_2 x329012_2 x329013_2 x329014_2 x329015_2 x329016_2 x329017_2 (bt x0_5 x13_2) t336 t337 t338 t339 t340 t341 t342 t343 t344 t345 t346 t347 t348 t349 t350 t351 t352 t353 t354 w _ ?side1 ?side2 A37.out).mono ?_); (case side1 => repeat (first | (with_reducible first | exact HI328.out | apply IsS77.alloc | apply IsS77.drewN | apply IsS77.drew | apply IsS77.set_0 | apply IsS77.set_1 | apply IsS77.set_2 | apply IsS77.set_3 | apply IsS77.set_4 | apply IsS77.set_5 | apply IsS77.set_6 | apply IsS77.set_7 | apply IsS77.set_8 | apply IsS77.set_9 | apply IsS77.set_10 | apply IsS77.set_11 | apply IsS77.set_12 | apply IsS77.set_13 | apply IsS77.set_14 | apply IsS77.set_15 | apply IsS77.set_16 | apply IsS77.set_17 | refine IsS77.far2 ?_ (by repeat (first | exact isTyR_of BK335.out | apply isTy_set | apply isTy_drewN | apply isTy_drew | apply isTy_alloc)) (by decide)) | exact HI328.out)); (case side2 => repeat (first | (with_reducible first | exact HB.out | apply below_alloc | apply pw_below_drewN | apply below_drew1 | refine below_set ?_ (IsS77.ge HI328.out) | refine below_set ?_ GE335.out) | exact HB.out)); rintro e w39 ⟨rfl, hi, hb, hk⟩; refine ⟨_, rfl, ?_⟩; replace BK335 := Aside0.mk (HdKeep.blk hk (g' := gb335) (o := .cells #[.int .i64 t329, .int .i64 t330, .int .i64 t331, .int .i64 t332] 25 (0, 0)) (hp_ BK335.out) NB335_328.out (by simp)); replace HB := Aside0.mk (hb); replace HI328 := Aside0.mk (hi); (try clear hb); (try clear hb2); (try clear hk); (try clear hi)))
                     go_roundg kj29
                     case measure => have := HJ5.out; have := HK2.out; have := HJ25.out; have := HJ27.out; have := HJ29.out; omega
                     case rel => exact ⟨(wrap64 (x13_2 + 1)), (t337), (t338), (t339), (t340), (t341), (t342), (t343), (t344), (t345), (t346), (t347), (t348), (t349), (t350), (t351), (t352), (t353), (t354), (by first | rfl | (simp; done) | (simp [*]; done)), H', ⟨by have := HJ5.out; have := HK2.out; have := HJ25.out; have := HJ27.out; have := HJ29.out; omega⟩, ⟨hp_ BK335.out⟩, ⟨by repeat (first | (with_reducible first | exact HI328.out | apply IsS77.alloc | apply IsS77.drewN | apply IsS77.drew | apply IsS77.set_0 | apply IsS77.set_1 | apply IsS77.set_2 | apply IsS77.set_3 | apply IsS77.set_4 | apply IsS77.set_5 | apply IsS77.set_6 | apply IsS77.set_7 | apply IsS77.set_8 | apply IsS77.set_9 | apply IsS77.set_10 | apply IsS77.set_11 | apply IsS77.set_12 | apply IsS77.set_13 | apply IsS77.set_14 | apply IsS77.set_15 | apply IsS77.set_16 | apply IsS77.set_17 | refine IsS77.far2 ?_ (by repeat (first | exact isTyR_of BK335.out | apply isTy_set | apply isTy_drewN | apply isTy_drew | apply isTy_alloc)) (by decide)) | exact HI328.out)⟩, ⟨by repeat (first | (with_reducible first | exact HB.out | apply below_alloc | apply pw_below_drewN | apply below_drew1 | refine below_set ?_ (IsS77.ge HI328.out) | refine below_set ?_ GE335.out) | exact HB.out)⟩⟩
                   · rw [if_neg c38] at H
                     have c38b0 : (t336 == 2) = false := beq_eq_false_iff_ne.mpr c38
                     have c38b1 : (t336 != 2) = true := bne_iff_ne.mpr c38
                     obtain rfl := Option.some.inj H
                     have p36 : 0 ≤ (x13_2 : Int) := of_decide_eq_true (by first | (with_reducible assumption) | assumption)
                     have q36 : x13_2 < (x0_5.size : Int) := of_decide_eq_true (by first | (with_reducible assumption) | assumption)
                     have hx36 := bt_at x0_5 x13_2
                     replace p36 := eq_true p36
                     replace q36 := eq_true q36
                     go_wp2_with (first | ((with_reducible refine gate_callee (f := 20) rfl ?_); refine goQ_ (some 70) Try.func20 #[.pointer (some ⟨g328, 0, none⟩), .int .u8 (bt x0_5 x13_2)] ?_; (with_reducible refine (head_Reader_Put.calls g328 x329000_2 x329001_2 x329002_2 x329003_2 x329004_2 x329005_2 x329006_2 x329007_2 x329008_2 x329009_2 x329010_2 x329011_2 x329012_2 x329013_2 x329014_2 x329015_2 x329016_2 x329017_2 (bt x0_5 x13_2) t336 t337 t338 t339 t340 t341 t342 t343 t344 t345 t346 t347 t348 t349 t350 t351 t352 t353 t354 w _ ?side1 ?side2 A37.out).mono ?_); (case side1 => repeat (first | (with_reducible first | exact HI328.out | apply IsS77.alloc | apply IsS77.drewN | apply IsS77.drew | apply IsS77.set_0 | apply IsS77.set_1 | apply IsS77.set_2 | apply IsS77.set_3 | apply IsS77.set_4 | apply IsS77.set_5 | apply IsS77.set_6 | apply IsS77.set_7 | apply IsS77.set_8 | apply IsS77.set_9 | apply IsS77.set_10 | apply IsS77.set_11 | apply IsS77.set_12 | apply IsS77.set_13 | apply IsS77.set_14 | apply IsS77.set_15 | apply IsS77.set_16 | apply IsS77.set_17) | exact HI328.out)); (case side2 => repeat (first | (with_reducible first | exact HB.out | apply below_alloc | apply pw_below_drewN | apply below_drew1 | refine below_set ?_ (IsS77.ge HI328.out)) | exact HB.out)); rintro e w40 ⟨rfl, hi, hb, hk⟩; refine ⟨_, rfl, ?_⟩; replace HB := Aside0.mk (hb); replace HI328 := Aside0.mk (hi); (try clear hb); (try clear hb2); (try clear hk); (try clear hi)))
                     go_ret
                     exact ⟨by first | rfl | (simp [errW_none, errW_some] <;> rfl) | (simp [*, errW_none, errW_some] <;> rfl), by repeat (first | (with_reducible first | exact HB.out | apply below_alloc | apply pw_below_drewN | apply below_drew1 | refine below_set ?_ (IsS77.ge HI328.out)) | exact HB.out)⟩
                 · rw [if_neg c35] at H
                   exact absurd H (by simp)
               · rw [if_neg c34] at H
                 exact absurd H (by simp)
             · replace c33 := Bool.eq_false_iff.mpr c33
               subst c33
               have H1 : (if 0 ≤ x13_2 then (if x13_2 < (x0_5.size : Int) then ((head_Reader_Put.f x329000_2 x329001_2 x329002_2 x329003_2 x329004_2 x329005_2 x329006_2 x329007_2 x329008_2 x329009_2 x329010_2 x329011_2 x329012_2 x329013_2 x329014_2 x329015_2 x329016_2 x329017_2 (bt x0_5 x13_2)).bind fun bt355 => (if bt355.1 = x14_27 then (chequerlaw06_HeadReads.l0 kj29 x0_5 t333 t334 (wrap64 (x13_2 + 1)) bt355.2.1 bt355.2.2.1 bt355.2.2.2.1 bt355.2.2.2.2.1 bt355.2.2.2.2.2.1 bt355.2.2.2.2.2.2.1 bt355.2.2.2.2.2.2.2.1 bt355.2.2.2.2.2.2.2.2.1 bt355.2.2.2.2.2.2.2.2.2.1 bt355.2.2.2.2.2.2.2.2.2.2.1 bt355.2.2.2.2.2.2.2.2.2.2.2.1 bt355.2.2.2.2.2.2.2.2.2.2.2.2.1 bt355.2.2.2.2.2.2.2.2.2.2.2.2.2.1 bt355.2.2.2.2.2.2.2.2.2.2.2.2.2.2.1 bt355.2.2.2.2.2.2.2.2.2.2.2.2.2.2.2.1 bt355.2.2.2.2.2.2.2.2.2.2.2.2.2.2.2.2.1 bt355.2.2.2.2.2.2.2.2.2.2.2.2.2.2.2.2.2.1 bt355.2.2.2.2.2.2.2.2.2.2.2.2.2.2.2.2.2.2 t329 t330 t331 t332) else (some false))) else (none)) else (none)) = some r := by rw [if_neg (show ¬ (false = true) by decide)] at H; exact H
               clear H
               have H := H1
               clear H1
               by_cases c41 : 0 ≤ x13_2
               · rw [if_pos c41] at H
                 have c41b0 : decide (0 ≤ x13_2) = true := decide_eq_true c41
                 clear c41
                 by_cases c42 : x13_2 < (x0_5.size : Int)
                 · rw [if_pos c42] at H
                   have c42b0 : decide (x13_2 < (x0_5.size : Int)) = true := decide_eq_true c42
                   clear c42
                   replace H := Option.bind_eq_some_iff.mp H
                   obtain ⟨⟨t355, t356, t357, t358, t359, t360, t361, t362, t363, t364, t365, t366, t367, t368, t369, t370, t371, t372, t373⟩, A440, H⟩ := H
                   replace H : (if t355 = x14_27 then (chequerlaw06_HeadReads.l0 kj29 x0_5 t333 t334 (wrap64 (x13_2 + 1)) t356 t357 t358 t359 t360 t361 t362 t363 t364 t365 t366 t367 t368 t369 t370 t371 t372 t373 t329 t330 t331 t332) else (some false)) = some r := H
                   have A44 := Aside0.mk A440
                   clear A440
                   by_cases c45 : t355 = x14_27
                   · rw [if_pos c45] at H
                     have c45b0 : (t355 == x14_27) = true := beq_iff_eq.mpr c45
                     have c45b1 : (t355 != x14_27) = false := bne_eq_false_iff_eq.mpr c45
                     clear c45
                     have H' := Aside0.mk H
                     clear H
                     have p43 : 0 ≤ (x13_2 : Int) := of_decide_eq_true (by first | (with_reducible assumption) | assumption)
                     have q43 : x13_2 < (x0_5.size : Int) := of_decide_eq_true (by first | (with_reducible assumption) | assumption)
                     have hx43 := bt_at x0_5 x13_2
                     replace p43 := eq_true p43
                     replace q43 := eq_true q43
                     go_wp2_with (first | ((with_reducible refine gate_callee (f := 20) rfl ?_); refine goQ_ (some 70) Try.func20 #[.pointer (some ⟨g328, 0, none⟩), .int .u8 (bt x0_5 x13_2)] ?_; (with_reducible refine (head_Reader_Put.calls g328 x329000_2 x329001_2 x329002_2 x329003_2 x329004_2 x329005_2 x329006_2 x329007_2 x329008_2 x329009_2 x329010_2 x329011_2 x329012_2 x329013_2 x329014_2 x329015_2 x329016_2 x329017_2 (bt x0_5 x13_2) t355 t356 t357 t358 t359 t360 t361 t362 t363 t364 t365 t366 t367 t368 t369 t370 t371 t372 t373 w _ ?side1 ?side2 A44.out).mono ?_); (case side1 => repeat (first | (with_reducible first | exact HI328.out | apply IsS77.alloc | apply IsS77.drewN | apply IsS77.drew | apply IsS77.set_0 | apply IsS77.set_1 | apply IsS77.set_2 | apply IsS77.set_3 | apply IsS77.set_4 | apply IsS77.set_5 | apply IsS77.set_6 | apply IsS77.set_7 | apply IsS77.set_8 | apply IsS77.set_9 | apply IsS77.set_10 | apply IsS77.set_11 | apply IsS77.set_12 | apply IsS77.set_13 | apply IsS77.set_14 | apply IsS77.set_15 | apply IsS77.set_16 | apply IsS77.set_17 | refine IsS77.far2 ?_ (by repeat (first | exact isTyR_of BK335.out | apply isTy_set | apply isTy_drewN | apply isTy_drew | apply isTy_alloc)) (by decide)) | exact HI328.out)); (case side2 => repeat (first | (with_reducible first | exact HB.out | apply below_alloc | apply pw_below_drewN | apply below_drew1 | refine below_set ?_ (IsS77.ge HI328.out) | refine below_set ?_ GE335.out) | exact HB.out)); rintro e w46 ⟨rfl, hi, hb, hk⟩; refine ⟨_, rfl, ?_⟩; replace BK335 := Aside0.mk (HdKeep.blk hk (g' := gb335) (o := .cells #[.int .i64 t329, .int .i64 t330, .int .i64 t331, .int .i64 t332] 25 (0, 0)) (hp_ BK335.out) NB335_328.out (by simp)); replace HB := Aside0.mk (hb); replace HI328 := Aside0.mk (hi); (try clear hb); (try clear hb2); (try clear hk); (try clear hi)))
                     go_roundg kj29
                     case measure => have := HJ5.out; have := HK2.out; have := HJ25.out; have := HJ27.out; have := HJ29.out; omega
                     case rel => exact ⟨(wrap64 (x13_2 + 1)), (t356), (t357), (t358), (t359), (t360), (t361), (t362), (t363), (t364), (t365), (t366), (t367), (t368), (t369), (t370), (t371), (t372), (t373), (by first | rfl | (simp; done) | (simp [*]; done)), H', ⟨by have := HJ5.out; have := HK2.out; have := HJ25.out; have := HJ27.out; have := HJ29.out; omega⟩, ⟨hp_ BK335.out⟩, ⟨by repeat (first | (with_reducible first | exact HI328.out | apply IsS77.alloc | apply IsS77.drewN | apply IsS77.drew | apply IsS77.set_0 | apply IsS77.set_1 | apply IsS77.set_2 | apply IsS77.set_3 | apply IsS77.set_4 | apply IsS77.set_5 | apply IsS77.set_6 | apply IsS77.set_7 | apply IsS77.set_8 | apply IsS77.set_9 | apply IsS77.set_10 | apply IsS77.set_11 | apply IsS77.set_12 | apply IsS77.set_13 | apply IsS77.set_14 | apply IsS77.set_15 | apply IsS77.set_16 | apply IsS77.set_17 | refine IsS77.far2 ?_ (by repeat (first | exact isTyR_of BK335.out | apply isTy_set | apply isTy_drewN | apply isTy_drew | apply isTy_alloc)) (by decide)) | exact HI328.out)⟩, ⟨by repeat (first | (with_reducible first | exact HB.out | apply below_alloc | apply pw_below_drewN | apply below_drew1 | refine below_set ?_ (IsS77.ge HI328.out) | refine below_set ?_ GE335.out) | exact HB.out)⟩⟩
                   · rw [if_neg c45] at H
                     have c45b0 : (t355 == x14_27) = false := beq_eq_false_iff_ne.mpr c45
                     have c45b1 : (t355 != x14_27) = true := bne_iff_ne.mpr c45
                     obtain rfl := Option.some.inj H
                     have p43 : 0 ≤ (x13_2 : Int) := of_decide_eq_true (by first | (with_reducible assumption) | assumption)
                     have q43 : x13_2 < (x0_5.size : Int) := of_decide_eq_true (by first | (with_reducible assumption) | assumption)
                     have hx43 := bt_at x0_5 x13_2
                     replace p43 := eq_true p43
                     replace q43 := eq_true q43
                     go_wp2_with (first | ((with_reducible refine gate_callee (f := 20) rfl ?_); refine goQ_ (some 70) Try.func20 #[.pointer (some ⟨g328, 0, none⟩), .int .u8 (bt x0_5 x13_2)] ?_; (with_reducible refine (head_Reader_Put.calls g328 x329000_2 x329001_2 x329002_2 x329003_2 x329004_2 x329005_2 x329006_2 x329007_2 x329008_2 x329009_2 x329010_2 x329011_2 x329012_2 x329013_2 x329014_2 x329015_2 x329016_2 x329017_2 (bt x0_5 x13_2) t355 t356 t357 t358 t359 t360 t361 t362 t363 t364 t365 t366 t367 t368 t369 t370 t371 t372 t373 w _ ?side1 ?side2 A44.out).mono ?_); (case side1 => repeat (first | (with_reducible first | exact HI328.out | apply IsS77.alloc | apply IsS77.drewN | apply IsS77.drew | apply IsS77.set_0 | apply IsS77.set_1 | apply IsS77.set_2 | apply IsS77.set_3 | apply IsS77.set_4 | apply IsS77.set_5 | apply IsS77.set_6 | apply IsS77.set_7 | apply IsS77.set_8 | apply IsS77.set_9 | apply IsS77.set_10 | apply IsS77.set_11 | apply IsS77.set_12 | apply IsS77.set_13 | apply IsS77.set_14 | apply IsS77.set_15 | apply IsS77.set_16 | apply IsS77.set_17) | exact HI328.out)); (case side2 => repeat (first | (with_reducible first | exact HB.out | apply below_alloc | apply pw_below_drewN | apply below_drew1 | refine below_set ?_ (IsS77.ge HI328.out)) | exact HB.out)); rintro e w47 ⟨rfl, hi, hb, hk⟩; refine ⟨_, rfl, ?_⟩; replace HB := Aside0.mk (hb); replace HI328 := Aside0.mk (hi); (try clear hb); (try clear hb2); (try clear hk); (try clear hi)))
                     go_ret
                     exact ⟨by first | rfl | (simp [errW_none, errW_some] <;> rfl) | (simp [*, errW_none, errW_some] <;> rfl), by repeat (first | (with_reducible first | exact HB.out | apply below_alloc | apply pw_below_drewN | apply below_drew1 | refine below_set ?_ (IsS77.ge HI328.out)) | exact HB.out)⟩
                 · rw [if_neg c42] at H
                   exact absurd H (by simp)
               · rw [if_neg c41] at H
                 exact absurd H (by simp)
     · rw [if_neg c25] at H
       have c25b0 : decide (x13_2 < (x0_5.size : Int)) = false := decide_eq_false c25
       clear c25
       replace H := Option.bind_eq_some_iff.mp H
       obtain ⟨⟨t374, t375, t376, t377, t378, t379, t380, t381, t382, t383, t384, t385, t386, t387, t388, t389, t390, t391, t392, t393, t394, t395, t396⟩, A480, H⟩ := H
       replace H : (if t334 = 6 then ((chequerlaw06_as.f t374 t375 t376 t377).bind fun bt398 => (if (bt398.1 == t329 && (bt398.2.1 == t330 && (bt398.2.2.1 == t331 && (bt398.2.2.2 == t332)))) = true then (if t378 = 9 then ((chequerlaw06_lives.f k2).bind fun t402 => (some t402)) else (some false)) else (some false))) else ((chequerlaw06_as.f t374 t375 t376 t377).bind fun bt403 => (if (bt403.1 == t329 && (bt403.2.1 == t330 && (bt403.2.2.1 == t331 && (bt403.2.2.2 == t332)))) = true then (if t378 = t334 then ((chequerlaw06_lives.f k2).bind fun t407 => (some t407)) else (some false)) else (some false)))) = some r := H
       have A48 := Aside0.mk A480
       clear A480
       by_cases c49 : t334 = 6
       · rw [if_pos c49] at H
         have c49b0 : (t334 == 6) = true := beq_iff_eq.mpr c49
         have c49b1 : (t334 != 6) = false := bne_eq_false_iff_eq.mpr c49
         clear c49
         replace H := Option.bind_eq_some_iff.mp H
         obtain ⟨⟨t398, t399, t400, t401⟩, A500, H⟩ := H
         replace H : (if (t398 == t329 && (t399 == t330 && (t400 == t331 && (t401 == t332)))) = true then (if t378 = 9 then ((chequerlaw06_lives.f k2).bind fun t402 => (some t402)) else (some false)) else (some false)) = some r := H
         have A50 := Aside0.mk A500
         clear A500
         by_cases c51 : (t398 == t329 && (t399 == t330 && (t400 == t331 && (t401 == t332)))) = true
         · rw [if_pos c51] at H
           have c51b0 : (t398 == t329 && (t399 == t330 && (t400 == t331 && (t401 == t332)))) = true := c51
           (try (have c51b1 : decide (t398 = t329 && (t399 == t330 && (t400 == t331 && (t401 == t332)))) = true := by simpa using c51))
           (try (have c51b2 : (t398 == t329 && (t399 == t330 && (t400 == t331 && (t401 == t332)))) = true := by simpa using c51))
           clear c51
           by_cases c52 : t378 = 9
           · rw [if_pos c52] at H
             have c52b0 : (t378 == 9) = true := beq_iff_eq.mpr c52
             have c52b1 : (t378 != 9) = false := bne_eq_false_iff_eq.mpr c52
             clear c52
             replace H := Option.bind_eq_some_iff.mp H
             obtain ⟨t402, A530, H⟩ := H
             replace H : (some t402) = some r := H
             have A53 := Aside0.mk A530
             clear A530
             obtain rfl := Option.some.inj H
             try go_wp2_with (first | ((with_reducible refine gate_callee (f := 21) rfl ?_); refine goQ_ (some 75) Try.func21 #[.pointer (some ⟨g328, 0, none⟩)] ?_; (with_reducible refine (head_Reader_Head.calls g328 x329000_2 x329001_2 x329002_2 x329003_2 x329004_2 x329005_2 x329006_2 x329007_2 x329008_2 x329009_2 x329010_2 x329011_2 x329012_2 x329013_2 x329014_2 x329015_2 x329016_2 x329017_2 t374 t375 t376 t377 t378 t379 t380 t381 t382 t383 t384 t385 t386 t387 t388 t389 t390 t391 t392 t393 t394 t395 t396 w _ ?side1 ?side2 A48.out).mono ?_); (case side1 => repeat (first | (with_reducible first | exact HI328.out | apply IsS77.alloc | apply IsS77.drewN | apply IsS77.drew | apply IsS77.set_0 | apply IsS77.set_1 | apply IsS77.set_2 | apply IsS77.set_3 | apply IsS77.set_4 | apply IsS77.set_5 | apply IsS77.set_6 | apply IsS77.set_7 | apply IsS77.set_8 | apply IsS77.set_9 | apply IsS77.set_10 | apply IsS77.set_11 | apply IsS77.set_12 | apply IsS77.set_13 | apply IsS77.set_14 | apply IsS77.set_15 | apply IsS77.set_16 | apply IsS77.set_17 | refine IsS77.far2 ?_ (by repeat (first | exact isTyR_of BK335.out | apply isTy_set | apply isTy_drewN | apply isTy_drew | apply isTy_alloc)) (by decide)) | exact HI328.out)); (case side2 => repeat (first | (with_reducible first | exact HB.out | apply below_alloc | apply pw_below_drewN | apply below_drew1 | refine below_set ?_ (IsS77.ge HI328.out) | refine below_set ?_ GE335.out) | exact HB.out)); rintro e w54 ⟨rfl, hi, hb, hk⟩; refine ⟨_, rfl, ?_⟩; replace BK335 := Aside0.mk (HdKeep.blk hk (g' := gb335) (o := .cells #[.int .i64 t329, .int .i64 t330, .int .i64 t331, .int .i64 t332] 25 (0, 0)) (hp_ BK335.out) NB335_328.out (by simp)); replace HB := Aside0.mk (hb); replace HI328 := Aside0.mk (hi); (try clear hb); (try clear hb2); (try clear hk); (try clear hi)) | ((with_reducible refine gate_dst (N := 15) rfl ?_); refine box_event ?hg (N := 15) ?hd (cs := #[.int .i64 0, .int .i64 0, .int .i64 0, .int .i64 0]) (t := 36) ?hr ?_; (case hd => rfl); (case hg => rfl); (case hr => first | (go_simp; done) | (go_simp; rfl)); intro gb397 hg w55 hbox hb; have BK397 := Aside0.mk (hbox); have GW397 := Aside0.mk ((by rw [hg]; exact (below_size (by repeat (first | (with_reducible first | exact HB.out | apply below_alloc | apply pw_below_drewN | apply below_drew1 | refine below_set ?_ (IsS77.ge HI328.out) | refine below_set ?_ GE335.out) | exact HB.out))) : w.heap.size ≤ gb397)); have GE397 := Aside0.mk ((by rw [hg]; exact (below_size (by repeat (first | (with_reducible first | exact HB.out | apply below_alloc | apply pw_below_drewN | apply below_drew1 | refine below_set ?_ (IsS77.ge HI328.out) | refine below_set ?_ GE335.out) | exact HB.out))) : w.heap.size ≤ gb397)); replace HB := Aside0.mk (below_step (by repeat (first | (with_reducible first | exact HB.out | apply below_alloc | apply pw_below_drewN | apply below_drew1 | refine below_set ?_ (IsS77.ge HI328.out) | refine below_set ?_ GE335.out) | exact HB.out)) hb); have NB335_397 := Aside0.mk ((nlt_ hg (hp_ BK335.out))); have NB397_335 := Aside0.mk ((ngt_ hg (hp_ BK335.out))); replace BK335 := Aside0.mk (blk_below (hp_ BK335.out) hb); have NB328_397 := Aside0.mk ((by rw [hg]; exact Nat.ne_of_lt (IsS77.lt (show IsS77 w _ g328 t379 t380 t381 t382 t383 t384 t385 t386 t387 t388 t389 t390 t391 t392 t393 t394 t395 t396 from by repeat (first | (with_reducible first | exact HI328.out | apply IsS77.alloc | apply IsS77.drewN | apply IsS77.drew | apply IsS77.set_0 | apply IsS77.set_1 | apply IsS77.set_2 | apply IsS77.set_3 | apply IsS77.set_4 | apply IsS77.set_5 | apply IsS77.set_6 | apply IsS77.set_7 | apply IsS77.set_8 | apply IsS77.set_9 | apply IsS77.set_10 | apply IsS77.set_11 | apply IsS77.set_12 | apply IsS77.set_13 | apply IsS77.set_14 | apply IsS77.set_15 | apply IsS77.set_16 | apply IsS77.set_17 | refine IsS77.far2 ?_ (by repeat (first | exact isTyR_of BK335.out | apply isTy_set | apply isTy_drewN | apply isTy_drew | apply isTy_alloc)) (by decide)) | exact HI328.out))) : g328 ≠ gb397)); have NB397_328 := Aside0.mk ((by rw [hg]; exact Nat.ne_of_gt (IsS77.lt (show IsS77 w _ g328 t379 t380 t381 t382 t383 t384 t385 t386 t387 t388 t389 t390 t391 t392 t393 t394 t395 t396 from by repeat (first | (with_reducible first | exact HI328.out | apply IsS77.alloc | apply IsS77.drewN | apply IsS77.drew | apply IsS77.set_0 | apply IsS77.set_1 | apply IsS77.set_2 | apply IsS77.set_3 | apply IsS77.set_4 | apply IsS77.set_5 | apply IsS77.set_6 | apply IsS77.set_7 | apply IsS77.set_8 | apply IsS77.set_9 | apply IsS77.set_10 | apply IsS77.set_11 | apply IsS77.set_12 | apply IsS77.set_13 | apply IsS77.set_14 | apply IsS77.set_15 | apply IsS77.set_16 | apply IsS77.set_17 | refine IsS77.far2 ?_ (by repeat (first | exact isTyR_of BK335.out | apply isTy_set | apply isTy_drewN | apply isTy_drew | apply isTy_alloc)) (by decide)) | exact HI328.out))) : gb397 ≠ g328)); replace HI328 := Aside0.mk (IsS77.below (by repeat (first | (with_reducible first | exact HI328.out | apply IsS77.alloc | apply IsS77.drewN | apply IsS77.drew | apply IsS77.set_0 | apply IsS77.set_1 | apply IsS77.set_2 | apply IsS77.set_3 | apply IsS77.set_4 | apply IsS77.set_5 | apply IsS77.set_6 | apply IsS77.set_7 | apply IsS77.set_8 | apply IsS77.set_9 | apply IsS77.set_10 | apply IsS77.set_11 | apply IsS77.set_12 | apply IsS77.set_13 | apply IsS77.set_14 | apply IsS77.set_15 | apply IsS77.set_16 | apply IsS77.set_17 | refine IsS77.far2 ?_ (by repeat (first | exact isTyR_of BK335.out | apply isTy_set | apply isTy_drewN | apply isTy_drew | apply isTy_alloc)) (by decide)) | exact HI328.out)) hb); clear hb hbox hg; have hnb56 := NB397_335.out; have hnc56 := NB335_397.out; have hnb57 := NB397_328.out; have hnc57 := NB328_397.out; have hcz58_0 : w55.cell? ⟨gb397, 0, none⟩ = some (.int .i64 0) := (blk_cell BK397.out 0).trans rfl; have hcz58_1 : w55.cell? ⟨gb397, 1, none⟩ = some (.int .i64 0) := (blk_cell BK397.out 1).trans rfl; have hcz58_2 : w55.cell? ⟨gb397, 2, none⟩ = some (.int .i64 0) := (blk_cell BK397.out 2).trans rfl; have hcz58_3 : w55.cell? ⟨gb397, 3, none⟩ = some (.int .i64 0) := (blk_cell BK397.out 3).trans rfl; have hfz58_0 := blk_frozen BK397.out 0; have hfz58_1 := blk_frozen BK397.out 1; have hfz58_2 := blk_frozen BK397.out 2; have hfz58_3 := blk_frozen BK397.out 3))
             have n0_ : Aside0 (((((w55.setCell ⟨gb397, 0, none⟩ (.int .i64 t374)).setCell ⟨gb397, 1, none⟩ (.int .i64 t375)).setCell ⟨gb397, 2, none⟩ (.int .i64 t376)).setCell ⟨gb397, 3, none⟩ (.int .i64 t377)).heap[gb335]? = some (.cells #[.int .i64 t329, .int .i64 t330, .int .i64 t331, .int .i64 t332] 25 (0, 0))) := ⟨hf_ BK335.out NB335_397.out⟩
             have n1_ : Aside0 (((((w55.setCell ⟨gb397, 0, none⟩ (.int .i64 t374)).setCell ⟨gb397, 1, none⟩ (.int .i64 t375)).setCell ⟨gb397, 2, none⟩ (.int .i64 t376)).setCell ⟨gb397, 3, none⟩ (.int .i64 t377)).heap[gb397]? = some (.cells #[.int .i64 t374, .int .i64 t375, .int .i64 t376, .int .i64 t377] 36 (0, 0))) := ⟨by (with_reducible repeat (first | refine blk_drewN ?_ _ | refine blk_drew ?_ | refine blk_alloc ?_ _)); refine blk_put (cs := #[.int .i64 t374, .int .i64 t375, .int .i64 t376, .int .i64 0]) ?_ 3 _ rfl; (with_reducible repeat (first | refine blk_drewN ?_ _ | refine blk_drew ?_ | refine blk_alloc ?_ _)); refine blk_put (cs := #[.int .i64 t374, .int .i64 t375, .int .i64 0, .int .i64 0]) ?_ 2 _ rfl; (with_reducible repeat (first | refine blk_drewN ?_ _ | refine blk_drew ?_ | refine blk_alloc ?_ _)); refine blk_put (cs := #[.int .i64 t374, .int .i64 0, .int .i64 0, .int .i64 0]) ?_ 1 _ rfl; (with_reducible repeat (first | refine blk_drewN ?_ _ | refine blk_drew ?_ | refine blk_alloc ?_ _)); refine blk_put (cs := #[.int .i64 0, .int .i64 0, .int .i64 0, .int .i64 0]) ?_ 0 _ rfl; (with_reducible repeat (first | refine blk_drewN ?_ _ | refine blk_drew ?_ | refine blk_alloc ?_ _)); exact BK397.out⟩
             have n2_ : Aside0 (IsS77 w ((((w55.setCell ⟨gb397, 0, none⟩ (.int .i64 t374)).setCell ⟨gb397, 1, none⟩ (.int .i64 t375)).setCell ⟨gb397, 2, none⟩ (.int .i64 t376)).setCell ⟨gb397, 3, none⟩ (.int .i64 t377)) g328 t379 t380 t381 t382 t383 t384 t385 t386 t387 t388 t389 t390 t391 t392 t393 t394 t395 t396) := ⟨by repeat (first | (with_reducible first | exact HI328.out | apply IsS77.alloc | apply IsS77.drewN | apply IsS77.drew | apply IsS77.set_0 | apply IsS77.set_1 | apply IsS77.set_2 | apply IsS77.set_3 | apply IsS77.set_4 | apply IsS77.set_5 | apply IsS77.set_6 | apply IsS77.set_7 | apply IsS77.set_8 | apply IsS77.set_9 | apply IsS77.set_10 | apply IsS77.set_11 | apply IsS77.set_12 | apply IsS77.set_13 | apply IsS77.set_14 | apply IsS77.set_15 | apply IsS77.set_16 | apply IsS77.set_17 | refine IsS77.far2 ?_ (by repeat (first | exact isTyR_of BK335.out | apply isTy_set | apply isTy_drewN | apply isTy_drew | apply isTy_alloc)) (by decide) | refine IsS77.far2 ?_ (by repeat (first | exact isTyR_of BK397.out | apply isTy_set | apply isTy_drewN | apply isTy_drew | apply isTy_alloc)) (by decide)) | exact HI328.out)⟩
             have n3_ : Aside0 (Below w.heap.size w ((((w55.setCell ⟨gb397, 0, none⟩ (.int .i64 t374)).setCell ⟨gb397, 1, none⟩ (.int .i64 t375)).setCell ⟨gb397, 2, none⟩ (.int .i64 t376)).setCell ⟨gb397, 3, none⟩ (.int .i64 t377))) := ⟨by repeat (first | (with_reducible first | exact HB.out | apply below_alloc | apply pw_below_drewN | apply below_drew1 | refine below_set ?_ (IsS77.ge HI328.out) | refine below_set ?_ GE335.out | refine below_set ?_ GE397.out) | exact HB.out)⟩
             (try clear BK335)
             (try clear BK397)
             (try clear HI328)
             (try clear HB)
             generalize ((((w55.setCell ⟨gb397, 0, none⟩ (.int .i64 t374)).setCell ⟨gb397, 1, none⟩ (.int .i64 t375)).setCell ⟨gb397, 2, none⟩ (.int .i64 t376)).setCell ⟨gb397, 3, none⟩ (.int .i64 t377)) = w59 at n0_ n1_ n2_ n3_ ⊢
             have BK335 := n0_
             have BK397 := n1_
             have HI328 := n2_
             have HB := n3_
             clear n0_ n1_ n2_ n3_
             replace BK335 := Aside0.mk (blk_drew BK335.out)
             replace BK397 := Aside0.mk (blk_drew BK397.out)
             replace HI328 := Aside0.mk (IsS77.drew HI328.out)
             replace HB := Aside0.mk (below_drew1 HB.out)
             refine start_ (n := 13) (S := fun w' => w'.cell? ⟨gb397, 0, none⟩ = some (.int .i64 t374) ∧ w'.cell? ⟨gb397, 1, none⟩ = some (.int .i64 t375) ∧ w'.cell? ⟨gb397, 2, none⟩ = some (.int .i64 t376) ∧ w'.cell? ⟨gb397, 3, none⟩ = some (.int .i64 t377) ∧ w'.cell? ⟨gb335, 0, none⟩ = some (.int .i64 t329) ∧ w'.cell? ⟨gb335, 1, none⟩ = some (.int .i64 t330) ∧ w'.cell? ⟨gb335, 2, none⟩ = some (.int .i64 t331) ∧ w'.cell? ⟨gb335, 3, none⟩ = some (.int .i64 t332)) (ds := []) Fl65 (by kernel_rfl) rfl rfl ⟨(blk_cell BK397.out 0).trans rfl, (blk_cell BK397.out 1).trans rfl, (blk_cell BK397.out 2).trans rfl, (blk_cell BK397.out 3).trans rfl, (blk_cell BK335.out 0).trans rfl, (blk_cell BK335.out 1).trans rfl, (blk_cell BK335.out 2).trans rfl, (blk_cell BK335.out 3).trans rfl⟩ (fun hHeld => ?_); refine with_tabW chequerlaw06_HeadReads.tab21 chequerlaw06_HeadReads.bits21 (fun HT_ HW_ => ?_)
             generalize w59.drew = w60 at BK335 BK397 HI328 HB hHeld ⊢
             refine take_ (i := 0) (N := some 80) (v := ?_) (a' := ?_) Fl66 rfl rfl (take_ofW HT_.out HW_.out (by kernel_rfl)) (fun _ _ _ h => h) (Or.inl ⟨by rfl, ?_⟩) hHeld ?_ ?_
             rotate_left
             · rintro w' ⟨s0, s1, s2, s3, s4, s5, s6, s7⟩
               go_simp
               with_reducible rfl
             rotate_left
             · simp only [Act.put, List.setIfInBounds_toArray, List.set_cons_zero, List.set_cons_succ, i64_w, i32_w]
               rfl
             refine take_ (i := 2) (N := some 82) (v := ?_) (a' := ?_) Fl67 rfl rfl (take_ofW HT_.out HW_.out (by kernel_rfl)) (fun _ _ _ h => h) (Or.inl ⟨by rfl, ?_⟩) hHeld ?_ ?_
             rotate_left
             · rintro w' ⟨s0, s1, s2, s3, s4, s5, s6, s7⟩
               go_simp
               with_reducible rfl
             rotate_left
             · simp only [Act.put, List.setIfInBounds_toArray, List.set_cons_zero, List.set_cons_succ, i64_w, i32_w]
               rfl
             refine one_ (i := 1) (N := some 81) Fl68 rfl rfl (one_of HT_.out (by kernel_rfl)) (by decide) (fun K hK => ?_)
             refine goes_ Try.func17 (by kernel_rfl) rfl #[.agg #[.int .i64 t374, .int .i64 t375, .int .i64 t376, .int .i64 t377]] (by rfl) rfl rfl (by (try simp only [List.map_toArray, List.map_cons, List.map_nil]); first | done | rfl | (simp only [List.length_drop, List.length_take]; rfl)) ?_
             with_reducible refine (chequerlaw06_as.calls t374 t375 t376 t377 t398 t399 t400 t401 _ A50.out).mono ?_
             rintro e w61 ⟨rfl, hb⟩
             refine ⟨_, rfl, ?_⟩
             replace BK335 := Aside0.mk (blk_below (hp_ BK335.out) hb)
             replace BK397 := Aside0.mk (blk_below (hp_ BK397.out) hb)
             replace HB := Aside0.mk (below_step (by repeat (first | (with_reducible first | exact HB.out | apply below_alloc | apply pw_below_drewN | apply below_drew1 | refine below_set ?_ (IsS77.ge HI328.out) | refine below_set ?_ GE335.out | refine below_set ?_ GE397.out) | exact HB.out)) hb)
             replace HI328 := Aside0.mk (IsS77.below (by repeat (first | (with_reducible first | exact HI328.out | apply IsS77.alloc | apply IsS77.drewN | apply IsS77.drew | apply IsS77.set_0 | apply IsS77.set_1 | apply IsS77.set_2 | apply IsS77.set_3 | apply IsS77.set_4 | apply IsS77.set_5 | apply IsS77.set_6 | apply IsS77.set_7 | apply IsS77.set_8 | apply IsS77.set_9 | apply IsS77.set_10 | apply IsS77.set_11 | apply IsS77.set_12 | apply IsS77.set_13 | apply IsS77.set_14 | apply IsS77.set_15 | apply IsS77.set_16 | apply IsS77.set_17 | refine IsS77.far2 ?_ (by repeat (first | exact isTyR_of BK335.out | apply isTy_set | apply isTy_drewN | apply isTy_drew | apply isTy_alloc)) (by decide) | refine IsS77.far2 ?_ (by repeat (first | exact isTyR_of BK397.out | apply isTy_set | apply isTy_drewN | apply isTy_drew | apply isTy_alloc)) (by decide)) | exact HI328.out)) hb)
             (try clear hb)
             (try clear hb2)
             (try clear hk)
             (try clear hi)
             refine hK.out _ _ ⟨(blk_cell BK397.out 0).trans rfl, (blk_cell BK397.out 1).trans rfl, (blk_cell BK397.out 2).trans rfl, (blk_cell BK397.out 3).trans rfl, (blk_cell BK335.out 0).trans rfl, (blk_cell BK335.out 1).trans rfl, (blk_cell BK335.out 2).trans rfl, (blk_cell BK335.out 3).trans rfl⟩ (fun hHeld => ?_)
             clear hK K
             refine norm_ (a' := ?_) ?_ ?_
             rotate_left
             · show Act.put _ (some 81) _ = _
               simp only [Act.put, List.setIfInBounds_toArray, List.set_cons_zero, List.set_cons_succ, i64_w, i32_w]
               rfl
             refine pur_ (i := 3) (N := some 83) Fl69 (any_of HT_.out (by kernel_rfl)) ?_
             refine pur_ (i := 4) (N := some 84) Fl70 (any_of HT_.out (by kernel_rfl)) ?_
             refine pur_ (i := 5) (N := some 85) Fl71 (any_of HT_.out (by kernel_rfl)) ?_
             refine pur_ (i := 6) (N := some 86) Fl72 (any_of HT_.out (by kernel_rfl)) ?_
             refine pur_ (i := 7) (N := some 87) Fl73 (any_of HT_.out (by kernel_rfl)) ?_
             refine pur_ (i := 8) (N := some 88) Fl74 (any_of HT_.out (by kernel_rfl)) ?_
             refine pur_ (i := 9) (N := some 89) Fl75 (any_of HT_.out (by kernel_rfl)) ?_
             refine one_ (i := 10) (N := some 90) Fl76 rfl rfl (one_of HT_.out (by kernel_rfl)) (by decide) (fun K hK => ?_)
             refine goes_ Try.func12 (by kernel_rfl) rfl #[] (by rfl) rfl rfl (by (try simp only [List.map_toArray, List.map_cons, List.map_nil]); first | done | rfl | (simp only [List.length_drop, List.length_take]; rfl)) ?_
             with_reducible refine (chequerlaw06_lives.calls k2  t402 _ A53.out).mono ?_
             rintro e w62 ⟨rfl, hb⟩
             refine ⟨_, rfl, ?_⟩
             replace BK335 := Aside0.mk (blk_below (hp_ BK335.out) hb)
             replace BK397 := Aside0.mk (blk_below (hp_ BK397.out) hb)
             replace HB := Aside0.mk (below_step (by repeat (first | (with_reducible first | exact HB.out | apply below_alloc | apply pw_below_drewN | apply below_drew1 | refine below_set ?_ (IsS77.ge HI328.out) | refine below_set ?_ GE335.out | refine below_set ?_ GE397.out) | exact HB.out)) hb)
             replace HI328 := Aside0.mk (IsS77.below (by repeat (first | (with_reducible first | exact HI328.out | apply IsS77.alloc | apply IsS77.drewN | apply IsS77.drew | apply IsS77.set_0 | apply IsS77.set_1 | apply IsS77.set_2 | apply IsS77.set_3 | apply IsS77.set_4 | apply IsS77.set_5 | apply IsS77.set_6 | apply IsS77.set_7 | apply IsS77.set_8 | apply IsS77.set_9 | apply IsS77.set_10 | apply IsS77.set_11 | apply IsS77.set_12 | apply IsS77.set_13 | apply IsS77.set_14 | apply IsS77.set_15 | apply IsS77.set_16 | apply IsS77.set_17 | refine IsS77.far2 ?_ (by repeat (first | exact isTyR_of BK335.out | apply isTy_set | apply isTy_drewN | apply isTy_drew | apply isTy_alloc)) (by decide) | refine IsS77.far2 ?_ (by repeat (first | exact isTyR_of BK397.out | apply isTy_set | apply isTy_drewN | apply isTy_drew | apply isTy_alloc)) (by decide)) | exact HI328.out)) hb)
             (try clear hb)
             (try clear hb2)
             (try clear hk)
             (try clear hi)
             refine hK.out _ _ ⟨(blk_cell BK397.out 0).trans rfl, (blk_cell BK397.out 1).trans rfl, (blk_cell BK397.out 2).trans rfl, (blk_cell BK397.out 3).trans rfl, (blk_cell BK335.out 0).trans rfl, (blk_cell BK335.out 1).trans rfl, (blk_cell BK335.out 2).trans rfl, (blk_cell BK335.out 3).trans rfl⟩ (fun hHeld => ?_)
             clear hK K
             refine norm_ (a' := ?_) ?_ ?_
             rotate_left
             · show Act.put _ (some 90) _ = _
               simp only [Act.put, List.setIfInBounds_toArray, List.set_cons_zero, List.set_cons_succ, i64_w, i32_w]
               rfl
             refine pur_ (i := 11) (N := some 91) Fl77 (any_of HT_.out (by kernel_rfl)) ?_
             refine pur_ (i := 12) (N := some 8) Fl78 (any_of HT_.out (by kernel_rfl)) ?_
             refine done_ (done_of HT_.out (by kernel_rfl)) ?_
             try go_wp2
             go_ret
             exact ⟨by first | rfl | (simp [errW_none, errW_some] <;> rfl) | (simp [*, errW_none, errW_some] <;> rfl), by repeat (first | (with_reducible first | exact HB.out | apply below_alloc | apply pw_below_drewN | apply below_drew1 | refine below_set ?_ (IsS77.ge HI328.out) | refine below_set ?_ GE335.out | refine below_set ?_ GE397.out) | exact HB.out)⟩
           · rw [if_neg c52] at H
             have c52b0 : (t378 == 9) = false := beq_eq_false_iff_ne.mpr c52
             have c52b1 : (t378 != 9) = true := bne_iff_ne.mpr c52
             obtain rfl := Option.some.inj H
             try go_wp2_with (first | ((with_reducible refine gate_callee (f := 21) rfl ?_); refine goQ_ (some 75) Try.func21 #[.pointer (some ⟨g328, 0, none⟩)] ?_; (with_reducible refine (head_Reader_Head.calls g328 x329000_2 x329001_2 x329002_2 x329003_2 x329004_2 x329005_2 x329006_2 x329007_2 x329008_2 x329009_2 x329010_2 x329011_2 x329012_2 x329013_2 x329014_2 x329015_2 x329016_2 x329017_2 t374 t375 t376 t377 t378 t379 t380 t381 t382 t383 t384 t385 t386 t387 t388 t389 t390 t391 t392 t393 t394 t395 t396 w _ ?side1 ?side2 A48.out).mono ?_); (case side1 => repeat (first | (with_reducible first | exact HI328.out | apply IsS77.alloc | apply IsS77.drewN | apply IsS77.drew | apply IsS77.set_0 | apply IsS77.set_1 | apply IsS77.set_2 | apply IsS77.set_3 | apply IsS77.set_4 | apply IsS77.set_5 | apply IsS77.set_6 | apply IsS77.set_7 | apply IsS77.set_8 | apply IsS77.set_9 | apply IsS77.set_10 | apply IsS77.set_11 | apply IsS77.set_12 | apply IsS77.set_13 | apply IsS77.set_14 | apply IsS77.set_15 | apply IsS77.set_16 | apply IsS77.set_17 | refine IsS77.far2 ?_ (by repeat (first | exact isTyR_of BK335.out | apply isTy_set | apply isTy_drewN | apply isTy_drew | apply isTy_alloc)) (by decide)) | exact HI328.out)); (case side2 => repeat (first | (with_reducible first | exact HB.out | apply below_alloc | apply pw_below_drewN | apply below_drew1 | refine below_set ?_ (IsS77.ge HI328.out) | refine below_set ?_ GE335.out) | exact HB.out)); rintro e w63 ⟨rfl, hi, hb, hk⟩; refine ⟨_, rfl, ?_⟩; replace BK335 := Aside0.mk (HdKeep.blk hk (g' := gb335) (o := .cells #[.int .i64 t329, .int .i64 t330, .int .i64 t331, .int .i64 t332] 25 (0, 0)) (hp_ BK335.out) NB335_328.out (by simp)); replace HB := Aside0.mk (hb); replace HI328 := Aside0.mk (hi); (try clear hb); (try clear hb2); (try clear hk); (try clear hi)) | ((with_reducible refine gate_dst (N := 15) rfl ?_); refine box_event ?hg (N := 15) ?hd (cs := #[.int .i64 0, .int .i64 0, .int .i64 0, .int .i64 0]) (t := 36) ?hr ?_; (case hd => rfl); (case hg => rfl); (case hr => first | (go_simp; done) | (go_simp; rfl)); intro gb397 hg w64 hbox hb; have BK397 := Aside0.mk (hbox); have GW397 := Aside0.mk ((by rw [hg]; exact (below_size (by repeat (first | (with_reducible first | exact HB.out | apply below_alloc | apply pw_below_drewN | apply below_drew1 | refine below_set ?_ (IsS77.ge HI328.out) | refine below_set ?_ GE335.out) | exact HB.out))) : w.heap.size ≤ gb397)); have GE397 := Aside0.mk ((by rw [hg]; exact (below_size (by repeat (first | (with_reducible first | exact HB.out | apply below_alloc | apply pw_below_drewN | apply below_drew1 | refine below_set ?_ (IsS77.ge HI328.out) | refine below_set ?_ GE335.out) | exact HB.out))) : w.heap.size ≤ gb397)); replace HB := Aside0.mk (below_step (by repeat (first | (with_reducible first | exact HB.out | apply below_alloc | apply pw_below_drewN | apply below_drew1 | refine below_set ?_ (IsS77.ge HI328.out) | refine below_set ?_ GE335.out) | exact HB.out)) hb); have NB335_397 := Aside0.mk ((nlt_ hg (hp_ BK335.out))); have NB397_335 := Aside0.mk ((ngt_ hg (hp_ BK335.out))); replace BK335 := Aside0.mk (blk_below (hp_ BK335.out) hb); have NB328_397 := Aside0.mk ((by rw [hg]; exact Nat.ne_of_lt (IsS77.lt (show IsS77 w _ g328 t379 t380 t381 t382 t383 t384 t385 t386 t387 t388 t389 t390 t391 t392 t393 t394 t395 t396 from by repeat (first | (with_reducible first | exact HI328.out | apply IsS77.alloc | apply IsS77.drewN | apply IsS77.drew | apply IsS77.set_0 | apply IsS77.set_1 | apply IsS77.set_2 | apply IsS77.set_3 | apply IsS77.set_4 | apply IsS77.set_5 | apply IsS77.set_6 | apply IsS77.set_7 | apply IsS77.set_8 | apply IsS77.set_9 | apply IsS77.set_10 | apply IsS77.set_11 | apply IsS77.set_12 | apply IsS77.set_13 | apply IsS77.set_14 | apply IsS77.set_15 | apply IsS77.set_16 | apply IsS77.set_17 | refine IsS77.far2 ?_ (by repeat (first | exact isTyR_of BK335.out | apply isTy_set | apply isTy_drewN | apply isTy_drew | apply isTy_alloc)) (by decide)) | exact HI328.out))) : g328 ≠ gb397)); have NB397_328 := Aside0.mk ((by rw [hg]; exact Nat.ne_of_gt (IsS77.lt (show IsS77 w _ g328 t379 t380 t381 t382 t383 t384 t385 t386 t387 t388 t389 t390 t391 t392 t393 t394 t395 t396 from by repeat (first | (with_reducible first | exact HI328.out | apply IsS77.alloc | apply IsS77.drewN | apply IsS77.drew | apply IsS77.set_0 | apply IsS77.set_1 | apply IsS77.set_2 | apply IsS77.set_3 | apply IsS77.set_4 | apply IsS77.set_5 | apply IsS77.set_6 | apply IsS77.set_7 | apply IsS77.set_8 | apply IsS77.set_9 | apply IsS77.set_10 | apply IsS77.set_11 | apply IsS77.set_12 | apply IsS77.set_13 | apply IsS77.set_14 | apply IsS77.set_15 | apply IsS77.set_16 | apply IsS77.set_17 | refine IsS77.far2 ?_ (by repeat (first | exact isTyR_of BK335.out | apply isTy_set | apply isTy_drewN | apply isTy_drew | apply isTy_alloc)) (by decide)) | exact HI328.out))) : gb397 ≠ g328)); replace HI328 := Aside0.mk (IsS77.below (by repeat (first | (with_reducible first | exact HI328.out | apply IsS77.alloc | apply IsS77.drewN | apply IsS77.drew | apply IsS77.set_0 | apply IsS77.set_1 | apply IsS77.set_2 | apply IsS77.set_3 | apply IsS77.set_4 | apply IsS77.set_5 | apply IsS77.set_6 | apply IsS77.set_7 | apply IsS77.set_8 | apply IsS77.set_9 | apply IsS77.set_10 | apply IsS77.set_11 | apply IsS77.set_12 | apply IsS77.set_13 | apply IsS77.set_14 | apply IsS77.set_15 | apply IsS77.set_16 | apply IsS77.set_17 | refine IsS77.far2 ?_ (by repeat (first | exact isTyR_of BK335.out | apply isTy_set | apply isTy_drewN | apply isTy_drew | apply isTy_alloc)) (by decide)) | exact HI328.out)) hb); clear hb hbox hg; have hnb65 := NB397_335.out; have hnc65 := NB335_397.out; have hnb66 := NB397_328.out; have hnc66 := NB328_397.out; have hcz67_0 : w64.cell? ⟨gb397, 0, none⟩ = some (.int .i64 0) := (blk_cell BK397.out 0).trans rfl; have hcz67_1 : w64.cell? ⟨gb397, 1, none⟩ = some (.int .i64 0) := (blk_cell BK397.out 1).trans rfl; have hcz67_2 : w64.cell? ⟨gb397, 2, none⟩ = some (.int .i64 0) := (blk_cell BK397.out 2).trans rfl; have hcz67_3 : w64.cell? ⟨gb397, 3, none⟩ = some (.int .i64 0) := (blk_cell BK397.out 3).trans rfl; have hfz67_0 := blk_frozen BK397.out 0; have hfz67_1 := blk_frozen BK397.out 1; have hfz67_2 := blk_frozen BK397.out 2; have hfz67_3 := blk_frozen BK397.out 3))
             have n0_ : Aside0 (((((w64.setCell ⟨gb397, 0, none⟩ (.int .i64 t374)).setCell ⟨gb397, 1, none⟩ (.int .i64 t375)).setCell ⟨gb397, 2, none⟩ (.int .i64 t376)).setCell ⟨gb397, 3, none⟩ (.int .i64 t377)).heap[gb335]? = some (.cells #[.int .i64 t329, .int .i64 t330, .int .i64 t331, .int .i64 t332] 25 (0, 0))) := ⟨hf_ BK335.out NB335_397.out⟩
             have n1_ : Aside0 (((((w64.setCell ⟨gb397, 0, none⟩ (.int .i64 t374)).setCell ⟨gb397, 1, none⟩ (.int .i64 t375)).setCell ⟨gb397, 2, none⟩ (.int .i64 t376)).setCell ⟨gb397, 3, none⟩ (.int .i64 t377)).heap[gb397]? = some (.cells #[.int .i64 t374, .int .i64 t375, .int .i64 t376, .int .i64 t377] 36 (0, 0))) := ⟨by (with_reducible repeat (first | refine blk_drewN ?_ _ | refine blk_drew ?_ | refine blk_alloc ?_ _)); refine blk_put (cs := #[.int .i64 t374, .int .i64 t375, .int .i64 t376, .int .i64 0]) ?_ 3 _ rfl; (with_reducible repeat (first | refine blk_drewN ?_ _ | refine blk_drew ?_ | refine blk_alloc ?_ _)); refine blk_put (cs := #[.int .i64 t374, .int .i64 t375, .int .i64 0, .int .i64 0]) ?_ 2 _ rfl; (with_reducible repeat (first | refine blk_drewN ?_ _ | refine blk_drew ?_ | refine blk_alloc ?_ _)); refine blk_put (cs := #[.int .i64 t374, .int .i64 0, .int .i64 0, .int .i64 0]) ?_ 1 _ rfl; (with_reducible repeat (first | refine blk_drewN ?_ _ | refine blk_drew ?_ | refine blk_alloc ?_ _)); refine blk_put (cs := #[.int .i64 0, .int .i64 0, .int .i64 0, .int .i64 0]) ?_ 0 _ rfl; (with_reducible repeat (first | refine blk_drewN ?_ _ | refine blk_drew ?_ | refine blk_alloc ?_ _)); exact BK397.out⟩
             have n2_ : Aside0 (IsS77 w ((((w64.setCell ⟨gb397, 0, none⟩ (.int .i64 t374)).setCell ⟨gb397, 1, none⟩ (.int .i64 t375)).setCell ⟨gb397, 2, none⟩ (.int .i64 t376)).setCell ⟨gb397, 3, none⟩ (.int .i64 t377)) g328 t379 t380 t381 t382 t383 t384 t385 t386 t387 t388 t389 t390 t391 t392 t393 t394 t395 t396) := ⟨by repeat (first | (with_reducible first | exact HI328.out | apply IsS77.alloc | apply IsS77.drewN | apply IsS77.drew | apply IsS77.set_0 | apply IsS77.set_1 | apply IsS77.set_2 | apply IsS77.set_3 | apply IsS77.set_4 | apply IsS77.set_5 | apply IsS77.set_6 | apply IsS77.set_7 | apply IsS77.set_8 | apply IsS77.set_9 | apply IsS77.set_10 | apply IsS77.set_11 | apply IsS77.set_12 | apply IsS77.set_13 | apply IsS77.set_14 | apply IsS77.set_15 | apply IsS77.set_16 | apply IsS77.set_17 | refine IsS77.far2 ?_ (by repeat (first | exact isTyR_of BK335.out | apply isTy_set | apply isTy_drewN | apply isTy_drew | apply isTy_alloc)) (by decide) | refine IsS77.far2 ?_ (by repeat (first | exact isTyR_of BK397.out | apply isTy_set | apply isTy_drewN | apply isTy_drew | apply isTy_alloc)) (by decide)) | exact HI328.out)⟩
             have n3_ : Aside0 (Below w.heap.size w ((((w64.setCell ⟨gb397, 0, none⟩ (.int .i64 t374)).setCell ⟨gb397, 1, none⟩ (.int .i64 t375)).setCell ⟨gb397, 2, none⟩ (.int .i64 t376)).setCell ⟨gb397, 3, none⟩ (.int .i64 t377))) := ⟨by repeat (first | (with_reducible first | exact HB.out | apply below_alloc | apply pw_below_drewN | apply below_drew1 | refine below_set ?_ (IsS77.ge HI328.out) | refine below_set ?_ GE335.out | refine below_set ?_ GE397.out) | exact HB.out)⟩
             (try clear BK335)
             (try clear BK397)
             (try clear HI328)
             (try clear HB)
             generalize ((((w64.setCell ⟨gb397, 0, none⟩ (.int .i64 t374)).setCell ⟨gb397, 1, none⟩ (.int .i64 t375)).setCell ⟨gb397, 2, none⟩ (.int .i64 t376)).setCell ⟨gb397, 3, none⟩ (.int .i64 t377)) = w68 at n0_ n1_ n2_ n3_ ⊢
             have BK335 := n0_
             have BK397 := n1_
             have HI328 := n2_
             have HB := n3_
             clear n0_ n1_ n2_ n3_
             replace BK335 := Aside0.mk (blk_drew BK335.out)
             replace BK397 := Aside0.mk (blk_drew BK397.out)
             replace HI328 := Aside0.mk (IsS77.drew HI328.out)
             replace HB := Aside0.mk (below_drew1 HB.out)
             refine start_ (n := 13) (S := fun w' => w'.cell? ⟨gb397, 0, none⟩ = some (.int .i64 t374) ∧ w'.cell? ⟨gb397, 1, none⟩ = some (.int .i64 t375) ∧ w'.cell? ⟨gb397, 2, none⟩ = some (.int .i64 t376) ∧ w'.cell? ⟨gb397, 3, none⟩ = some (.int .i64 t377) ∧ w'.cell? ⟨gb335, 0, none⟩ = some (.int .i64 t329) ∧ w'.cell? ⟨gb335, 1, none⟩ = some (.int .i64 t330) ∧ w'.cell? ⟨gb335, 2, none⟩ = some (.int .i64 t331) ∧ w'.cell? ⟨gb335, 3, none⟩ = some (.int .i64 t332)) (ds := []) Fl65 (by kernel_rfl) rfl rfl ⟨(blk_cell BK397.out 0).trans rfl, (blk_cell BK397.out 1).trans rfl, (blk_cell BK397.out 2).trans rfl, (blk_cell BK397.out 3).trans rfl, (blk_cell BK335.out 0).trans rfl, (blk_cell BK335.out 1).trans rfl, (blk_cell BK335.out 2).trans rfl, (blk_cell BK335.out 3).trans rfl⟩ (fun hHeld => ?_); refine with_tabW chequerlaw06_HeadReads.tab21 chequerlaw06_HeadReads.bits21 (fun HT_ HW_ => ?_)
             generalize w68.drew = w69 at BK335 BK397 HI328 HB hHeld ⊢
             refine take_ (i := 0) (N := some 80) (v := ?_) (a' := ?_) Fl66 rfl rfl (take_ofW HT_.out HW_.out (by kernel_rfl)) (fun _ _ _ h => h) (Or.inl ⟨by rfl, ?_⟩) hHeld ?_ ?_
             rotate_left
             · rintro w' ⟨s0, s1, s2, s3, s4, s5, s6, s7⟩
               go_simp
               with_reducible rfl
             rotate_left
             · simp only [Act.put, List.setIfInBounds_toArray, List.set_cons_zero, List.set_cons_succ, i64_w, i32_w]
               rfl
             refine take_ (i := 2) (N := some 82) (v := ?_) (a' := ?_) Fl67 rfl rfl (take_ofW HT_.out HW_.out (by kernel_rfl)) (fun _ _ _ h => h) (Or.inl ⟨by rfl, ?_⟩) hHeld ?_ ?_
             rotate_left
             · rintro w' ⟨s0, s1, s2, s3, s4, s5, s6, s7⟩
               go_simp
               with_reducible rfl
             rotate_left
             · simp only [Act.put, List.setIfInBounds_toArray, List.set_cons_zero, List.set_cons_succ, i64_w, i32_w]
               rfl
             refine one_ (i := 1) (N := some 81) Fl68 rfl rfl (one_of HT_.out (by kernel_rfl)) (by decide) (fun K hK => ?_)
             refine goes_ Try.func17 (by kernel_rfl) rfl #[.agg #[.int .i64 t374, .int .i64 t375, .int .i64 t376, .int .i64 t377]] (by rfl) rfl rfl (by (try simp only [List.map_toArray, List.map_cons, List.map_nil]); first | done | rfl | (simp only [List.length_drop, List.length_take]; rfl)) ?_
             with_reducible refine (chequerlaw06_as.calls t374 t375 t376 t377 t398 t399 t400 t401 _ A50.out).mono ?_
             rintro e w70 ⟨rfl, hb⟩
             refine ⟨_, rfl, ?_⟩
             replace BK335 := Aside0.mk (blk_below (hp_ BK335.out) hb)
             replace BK397 := Aside0.mk (blk_below (hp_ BK397.out) hb)
             replace HB := Aside0.mk (below_step (by repeat (first | (with_reducible first | exact HB.out | apply below_alloc | apply pw_below_drewN | apply below_drew1 | refine below_set ?_ (IsS77.ge HI328.out) | refine below_set ?_ GE335.out | refine below_set ?_ GE397.out) | exact HB.out)) hb)
             replace HI328 := Aside0.mk (IsS77.below (by repeat (first | (with_reducible first | exact HI328.out | apply IsS77.alloc | apply IsS77.drewN | apply IsS77.drew | apply IsS77.set_0 | apply IsS77.set_1 | apply IsS77.set_2 | apply IsS77.set_3 | apply IsS77.set_4 | apply IsS77.set_5 | apply IsS77.set_6 | apply IsS77.set_7 | apply IsS77.set_8 | apply IsS77.set_9 | apply IsS77.set_10 | apply IsS77.set_11 | apply IsS77.set_12 | apply IsS77.set_13 | apply IsS77.set_14 | apply IsS77.set_15 | apply IsS77.set_16 | apply IsS77.set_17 | refine IsS77.far2 ?_ (by repeat (first | exact isTyR_of BK335.out | apply isTy_set | apply isTy_drewN | apply isTy_drew | apply isTy_alloc)) (by decide) | refine IsS77.far2 ?_ (by repeat (first | exact isTyR_of BK397.out | apply isTy_set | apply isTy_drewN | apply isTy_drew | apply isTy_alloc)) (by decide)) | exact HI328.out)) hb)
             (try clear hb)
             (try clear hb2)
             (try clear hk)
             (try clear hi)
             refine hK.out _ _ ⟨(blk_cell BK397.out 0).trans rfl, (blk_cell BK397.out 1).trans rfl, (blk_cell BK397.out 2).trans rfl, (blk_cell BK397.out 3).trans rfl, (blk_cell BK335.out 0).trans rfl, (blk_cell BK335.out 1).trans rfl, (blk_cell BK335.out 2).trans rfl, (blk_cell BK335.out 3).trans rfl⟩ (fun hHeld => ?_)
             clear hK K
             refine norm_ (a' := ?_) ?_ ?_
             rotate_left
             · show Act.put _ (some 81) _ = _
               simp only [Act.put, List.setIfInBounds_toArray, List.set_cons_zero, List.set_cons_succ, i64_w, i32_w]
               rfl
             refine pur_ (i := 3) (N := some 83) Fl69 (any_of HT_.out (by kernel_rfl)) ?_
             refine pur_ (i := 4) (N := some 84) Fl70 (any_of HT_.out (by kernel_rfl)) ?_
             refine pur_ (i := 5) (N := some 85) Fl71 (any_of HT_.out (by kernel_rfl)) ?_
             refine pur_ (i := 6) (N := some 86) Fl72 (any_of HT_.out (by kernel_rfl)) ?_
             refine pur_ (i := 7) (N := some 87) Fl73 (any_of HT_.out (by kernel_rfl)) ?_
             refine pur_ (i := 8) (N := some 88) Fl74 (any_of HT_.out (by kernel_rfl)) ?_
             refine pur_ (i := 9) (N := some 89) Fl75 (any_of HT_.out (by kernel_rfl)) ?_
             refine pun_ (i := 10) (N := some 90) Fl76 (any_of HT_.out (by kernel_rfl)) ?_
             refine pur_ (i := 11) (N := some 91) Fl77 (any_of HT_.out (by kernel_rfl)) ?_
             refine pur_ (i := 12) (N := some 8) Fl78 (any_of HT_.out (by kernel_rfl)) ?_
             refine done_ (done_of HT_.out (by kernel_rfl)) ?_
             try go_wp2
             go_ret
             exact ⟨by first | rfl | (simp [errW_none, errW_some] <;> rfl) | (simp [*, errW_none, errW_some] <;> rfl), by repeat (first | (with_reducible first | exact HB.out | apply below_alloc | apply pw_below_drewN | apply below_drew1 | refine below_set ?_ (IsS77.ge HI328.out) | refine below_set ?_ GE335.out | refine below_set ?_ GE397.out) | exact HB.out)⟩
         · rw [if_neg c51] at H
           have c51b0 : (t398 == t329 && (t399 == t330 && (t400 == t331 && (t401 == t332)))) = false := by simpa using c51
           (try (have c51b1 : decide (t398 = t329 && (t399 == t330 && (t400 == t331 && (t401 == t332)))) = false := by simpa using c51))
           (try (have c51b2 : (t398 == t329 && (t399 == t330 && (t400 == t331 && (t401 == t332)))) = false := by simpa using c51))
           (try (have c51b3 : ¬ (t398 = t329 && (t399 == t330 && (t400 == t331 && (t401 == t332)))) := by simpa using c51))
           clear c51
           obtain rfl := Option.some.inj H
           try go_wp2_with (first | ((with_reducible refine gate_callee (f := 21) rfl ?_); refine goQ_ (some 75) Try.func21 #[.pointer (some ⟨g328, 0, none⟩)] ?_; (with_reducible refine (head_Reader_Head.calls g328 x329000_2 x329001_2 x329002_2 x329003_2 x329004_2 x329005_2 x329006_2 x329007_2 x329008_2 x329009_2 x329010_2 x329011_2 x329012_2 x329013_2 x329014_2 x329015_2 x329016_2 x329017_2 t374 t375 t376 t377 t378 t379 t380 t381 t382 t383 t384 t385 t386 t387 t388 t389 t390 t391 t392 t393 t394 t395 t396 w _ ?side1 ?side2 A48.out).mono ?_); (case side1 => repeat (first | (with_reducible first | exact HI328.out | apply IsS77.alloc | apply IsS77.drewN | apply IsS77.drew | apply IsS77.set_0 | apply IsS77.set_1 | apply IsS77.set_2 | apply IsS77.set_3 | apply IsS77.set_4 | apply IsS77.set_5 | apply IsS77.set_6 | apply IsS77.set_7 | apply IsS77.set_8 | apply IsS77.set_9 | apply IsS77.set_10 | apply IsS77.set_11 | apply IsS77.set_12 | apply IsS77.set_13 | apply IsS77.set_14 | apply IsS77.set_15 | apply IsS77.set_16 | apply IsS77.set_17 | refine IsS77.far2 ?_ (by repeat (first | exact isTyR_of BK335.out | apply isTy_set | apply isTy_drewN | apply isTy_drew | apply isTy_alloc)) (by decide)) | exact HI328.out)); (case side2 => repeat (first | (with_reducible first | exact HB.out | apply below_alloc | apply pw_below_drewN | apply below_drew1 | refine below_set ?_ (IsS77.ge HI328.out) | refine below_set ?_ GE335.out) | exact HB.out)); rintro e w71 ⟨rfl, hi, hb, hk⟩; refine ⟨_, rfl, ?_⟩; replace BK335 := Aside0.mk (HdKeep.blk hk (g' := gb335) (o := .cells #[.int .i64 t329, .int .i64 t330, .int .i64 t331, .int .i64 t332] 25 (0, 0)) (hp_ BK335.out) NB335_328.out (by simp)); replace HB := Aside0.mk (hb); replace HI328 := Aside0.mk (hi); (try clear hb); (try clear hb2); (try clear hk); (try clear hi)) | ((with_reducible refine gate_dst (N := 15) rfl ?_); refine box_event ?hg (N := 15) ?hd (cs := #[.int .i64 0, .int .i64 0, .int .i64 0, .int .i64 0]) (t := 36) ?hr ?_; (case hd => rfl); (case hg => rfl); (case hr => first | (go_simp; done) | (go_simp; rfl)); intro gb397 hg w72 hbox hb; have BK397 := Aside0.mk (hbox); have GW397 := Aside0.mk ((by rw [hg]; exact (below_size (by repeat (first | (with_reducible first | exact HB.out | apply below_alloc | apply pw_below_drewN | apply below_drew1 | refine below_set ?_ (IsS77.ge HI328.out) | refine below_set ?_ GE335.out) | exact HB.out))) : w.heap.size ≤ gb397)); have GE397 := Aside0.mk ((by rw [hg]; exact (below_size (by repeat (first | (with_reducible first | exact HB.out | apply below_alloc | apply pw_below_drewN | apply below_drew1 | refine below_set ?_ (IsS77.ge HI328.out) | refine below_set ?_ GE335.out) | exact HB.out))) : w.heap.size ≤ gb397)); replace HB := Aside0.mk (below_step (by repeat (first | (with_reducible first | exact HB.out | apply below_alloc | apply pw_below_drewN | apply below_drew1 | refine below_set ?_ (IsS77.ge HI328.out) | refine below_set ?_ GE335.out) | exact HB.out)) hb); have NB335_397 := Aside0.mk ((nlt_ hg (hp_ BK335.out))); have NB397_335 := Aside0.mk ((ngt_ hg (hp_ BK335.out))); replace BK335 := Aside0.mk (blk_below (hp_ BK335.out) hb); have NB328_397 := Aside0.mk ((by rw [hg]; exact Nat.ne_of_lt (IsS77.lt (show IsS77 w _ g328 t379 t380 t381 t382 t383 t384 t385 t386 t387 t388 t389 t390 t391 t392 t393 t394 t395 t396 from by repeat (first | (with_reducible first | exact HI328.out | apply IsS77.alloc | apply IsS77.drewN | apply IsS77.drew | apply IsS77.set_0 | apply IsS77.set_1 | apply IsS77.set_2 | apply IsS77.set_3 | apply IsS77.set_4 | apply IsS77.set_5 | apply IsS77.set_6 | apply IsS77.set_7 | apply IsS77.set_8 | apply IsS77.set_9 | apply IsS77.set_10 | apply IsS77.set_11 | apply IsS77.set_12 | apply IsS77.set_13 | apply IsS77.set_14 | apply IsS77.set_15 | apply IsS77.set_16 | apply IsS77.set_17 | refine IsS77.far2 ?_ (by repeat (first | exact isTyR_of BK335.out | apply isTy_set | apply isTy_drewN | apply isTy_drew | apply isTy_alloc)) (by decide)) | exact HI328.out))) : g328 ≠ gb397)); have NB397_328 := Aside0.mk ((by rw [hg]; exact Nat.ne_of_gt (IsS77.lt (show IsS77 w _ g328 t379 t380 t381 t382 t383 t384 t385 t386 t387 t388 t389 t390 t391 t392 t393 t394 t395 t396 from by repeat (first | (with_reducible first | exact HI328.out | apply IsS77.alloc | apply IsS77.drewN | apply IsS77.drew | apply IsS77.set_0 | apply IsS77.set_1 | apply IsS77.set_2 | apply IsS77.set_3 | apply IsS77.set_4 | apply IsS77.set_5 | apply IsS77.set_6 | apply IsS77.set_7 | apply IsS77.set_8 | apply IsS77.set_9 | apply IsS77.set_10 | apply IsS77.set_11 | apply IsS77.set_12 | apply IsS77.set_13 | apply IsS77.set_14 | apply IsS77.set_15 | apply IsS77.set_16 | apply IsS77.set_17 | refine IsS77.far2 ?_ (by repeat (first | exact isTyR_of BK335.out | apply isTy_set | apply isTy_drewN | apply isTy_drew | apply isTy_alloc)) (by decide)) | exact HI328.out))) : gb397 ≠ g328)); replace HI328 := Aside0.mk (IsS77.below (by repeat (first | (with_reducible first | exact HI328.out | apply IsS77.alloc | apply IsS77.drewN | apply IsS77.drew | apply IsS77.set_0 | apply IsS77.set_1 | apply IsS77.set_2 | apply IsS77.set_3 | apply IsS77.set_4 | apply IsS77.set_5 | apply IsS77.set_6 | apply IsS77.set_7 | apply IsS77.set_8 | apply IsS77.set_9 | apply IsS77.set_10 | apply IsS77.set_11 | apply IsS77.set_12 | apply IsS77.set_13 | apply IsS77.set_14 | apply IsS77.set_15 | apply IsS77.set_16 | apply IsS77.set_17 | refine IsS77.far2 ?_ (by repeat (first | exact isTyR_of BK335.out | apply isTy_set | apply isTy_drewN | apply isTy_drew | apply isTy_alloc)) (by decide)) | exact HI328.out)) hb); clear hb hbox hg; have hnb73 := NB397_335.out; have hnc73 := NB335_397.out; have hnb74 := NB397_328.out; have hnc74 := NB328_397.out; have hcz75_0 : w72.cell? ⟨gb397, 0, none⟩ = some (.int .i64 0) := (blk_cell BK397.out 0).trans rfl; have hcz75_1 : w72.cell? ⟨gb397, 1, none⟩ = some (.int .i64 0) := (blk_cell BK397.out 1).trans rfl; have hcz75_2 : w72.cell? ⟨gb397, 2, none⟩ = some (.int .i64 0) := (blk_cell BK397.out 2).trans rfl; have hcz75_3 : w72.cell? ⟨gb397, 3, none⟩ = some (.int .i64 0) := (blk_cell BK397.out 3).trans rfl; have hfz75_0 := blk_frozen BK397.out 0; have hfz75_1 := blk_frozen BK397.out 1; have hfz75_2 := blk_frozen BK397.out 2; have hfz75_3 := blk_frozen BK397.out 3))
           have n0_ : Aside0 (((((w72.setCell ⟨gb397, 0, none⟩ (.int .i64 t374)).setCell ⟨gb397, 1, none⟩ (.int .i64 t375)).setCell ⟨gb397, 2, none⟩ (.int .i64 t376)).setCell ⟨gb397, 3, none⟩ (.int .i64 t377)).heap[gb335]? = some (.cells #[.int .i64 t329, .int .i64 t330, .int .i64 t331, .int .i64 t332] 25 (0, 0))) := ⟨hf_ BK335.out NB335_397.out⟩
           have n1_ : Aside0 (((((w72.setCell ⟨gb397, 0, none⟩ (.int .i64 t374)).setCell ⟨gb397, 1, none⟩ (.int .i64 t375)).setCell ⟨gb397, 2, none⟩ (.int .i64 t376)).setCell ⟨gb397, 3, none⟩ (.int .i64 t377)).heap[gb397]? = some (.cells #[.int .i64 t374, .int .i64 t375, .int .i64 t376, .int .i64 t377] 36 (0, 0))) := ⟨by (with_reducible repeat (first | refine blk_drewN ?_ _ | refine blk_drew ?_ | refine blk_alloc ?_ _)); refine blk_put (cs := #[.int .i64 t374, .int .i64 t375, .int .i64 t376, .int .i64 0]) ?_ 3 _ rfl; (with_reducible repeat (first | refine blk_drewN ?_ _ | refine blk_drew ?_ | refine blk_alloc ?_ _)); refine blk_put (cs := #[.int .i64 t374, .int .i64 t375, .int .i64 0, .int .i64 0]) ?_ 2 _ rfl; (with_reducible repeat (first | refine blk_drewN ?_ _ | refine blk_drew ?_ | refine blk_alloc ?_ _)); refine blk_put (cs := #[.int .i64 t374, .int .i64 0, .int .i64 0, .int .i64 0]) ?_ 1 _ rfl; (with_reducible repeat (first | refine blk_drewN ?_ _ | refine blk_drew ?_ | refine blk_alloc ?_ _)); refine blk_put (cs := #[.int .i64 0, .int .i64 0, .int .i64 0, .int .i64 0]) ?_ 0 _ rfl; (with_reducible repeat (first | refine blk_drewN ?_ _ | refine blk_drew ?_ | refine blk_alloc ?_ _)); exact BK397.out⟩
           have n2_ : Aside0 (IsS77 w ((((w72.setCell ⟨gb397, 0, none⟩ (.int .i64 t374)).setCell ⟨gb397, 1, none⟩ (.int .i64 t375)).setCell ⟨gb397, 2, none⟩ (.int .i64 t376)).setCell ⟨gb397, 3, none⟩ (.int .i64 t377)) g328 t379 t380 t381 t382 t383 t384 t385 t386 t387 t388 t389 t390 t391 t392 t393 t394 t395 t396) := ⟨by repeat (first | (with_reducible first | exact HI328.out | apply IsS77.alloc | apply IsS77.drewN | apply IsS77.drew | apply IsS77.set_0 | apply IsS77.set_1 | apply IsS77.set_2 | apply IsS77.set_3 | apply IsS77.set_4 | apply IsS77.set_5 | apply IsS77.set_6 | apply IsS77.set_7 | apply IsS77.set_8 | apply IsS77.set_9 | apply IsS77.set_10 | apply IsS77.set_11 | apply IsS77.set_12 | apply IsS77.set_13 | apply IsS77.set_14 | apply IsS77.set_15 | apply IsS77.set_16 | apply IsS77.set_17 | refine IsS77.far2 ?_ (by repeat (first | exact isTyR_of BK335.out | apply isTy_set | apply isTy_drewN | apply isTy_drew | apply isTy_alloc)) (by decide) | refine IsS77.far2 ?_ (by repeat (first | exact isTyR_of BK397.out | apply isTy_set | apply isTy_drewN | apply isTy_drew | apply isTy_alloc)) (by decide)) | exact HI328.out)⟩
           have n3_ : Aside0 (Below w.heap.size w ((((w72.setCell ⟨gb397, 0, none⟩ (.int .i64 t374)).setCell ⟨gb397, 1, none⟩ (.int .i64 t375)).setCell ⟨gb397, 2, none⟩ (.int .i64 t376)).setCell ⟨gb397, 3, none⟩ (.int .i64 t377))) := ⟨by repeat (first | (with_reducible first | exact HB.out | apply below_alloc | apply pw_below_drewN | apply below_drew1 | refine below_set ?_ (IsS77.ge HI328.out) | refine below_set ?_ GE335.out | refine below_set ?_ GE397.out) | exact HB.out)⟩
           (try clear BK335)
           (try clear BK397)
           (try clear HI328)
           (try clear HB)
           generalize ((((w72.setCell ⟨gb397, 0, none⟩ (.int .i64 t374)).setCell ⟨gb397, 1, none⟩ (.int .i64 t375)).setCell ⟨gb397, 2, none⟩ (.int .i64 t376)).setCell ⟨gb397, 3, none⟩ (.int .i64 t377)) = w76 at n0_ n1_ n2_ n3_ ⊢
           have BK335 := n0_
           have BK397 := n1_
           have HI328 := n2_
           have HB := n3_
           clear n0_ n1_ n2_ n3_
           replace BK335 := Aside0.mk (blk_drew BK335.out)
           replace BK397 := Aside0.mk (blk_drew BK397.out)
           replace HI328 := Aside0.mk (IsS77.drew HI328.out)
           replace HB := Aside0.mk (below_drew1 HB.out)
           refine start_ (n := 13) (S := fun w' => w'.cell? ⟨gb397, 0, none⟩ = some (.int .i64 t374) ∧ w'.cell? ⟨gb397, 1, none⟩ = some (.int .i64 t375) ∧ w'.cell? ⟨gb397, 2, none⟩ = some (.int .i64 t376) ∧ w'.cell? ⟨gb397, 3, none⟩ = some (.int .i64 t377) ∧ w'.cell? ⟨gb335, 0, none⟩ = some (.int .i64 t329) ∧ w'.cell? ⟨gb335, 1, none⟩ = some (.int .i64 t330) ∧ w'.cell? ⟨gb335, 2, none⟩ = some (.int .i64 t331) ∧ w'.cell? ⟨gb335, 3, none⟩ = some (.int .i64 t332)) (ds := []) Fl65 (by kernel_rfl) rfl rfl ⟨(blk_cell BK397.out 0).trans rfl, (blk_cell BK397.out 1).trans rfl, (blk_cell BK397.out 2).trans rfl, (blk_cell BK397.out 3).trans rfl, (blk_cell BK335.out 0).trans rfl, (blk_cell BK335.out 1).trans rfl, (blk_cell BK335.out 2).trans rfl, (blk_cell BK335.out 3).trans rfl⟩ (fun hHeld => ?_); refine with_tabW chequerlaw06_HeadReads.tab21 chequerlaw06_HeadReads.bits21 (fun HT_ HW_ => ?_)
           generalize w76.drew = w77 at BK335 BK397 HI328 HB hHeld ⊢
           refine take_ (i := 0) (N := some 80) (v := ?_) (a' := ?_) Fl66 rfl rfl (take_ofW HT_.out HW_.out (by kernel_rfl)) (fun _ _ _ h => h) (Or.inl ⟨by rfl, ?_⟩) hHeld ?_ ?_
           rotate_left
           · rintro w' ⟨s0, s1, s2, s3, s4, s5, s6, s7⟩
             go_simp
             with_reducible rfl
           rotate_left
           · simp only [Act.put, List.setIfInBounds_toArray, List.set_cons_zero, List.set_cons_succ, i64_w, i32_w]
             rfl
           refine take_ (i := 2) (N := some 82) (v := ?_) (a' := ?_) Fl67 rfl rfl (take_ofW HT_.out HW_.out (by kernel_rfl)) (fun _ _ _ h => h) (Or.inl ⟨by rfl, ?_⟩) hHeld ?_ ?_
           rotate_left
           · rintro w' ⟨s0, s1, s2, s3, s4, s5, s6, s7⟩
             go_simp
             with_reducible rfl
           rotate_left
           · simp only [Act.put, List.setIfInBounds_toArray, List.set_cons_zero, List.set_cons_succ, i64_w, i32_w]
             rfl
           refine one_ (i := 1) (N := some 81) Fl68 rfl rfl (one_of HT_.out (by kernel_rfl)) (by decide) (fun K hK => ?_)
           refine goes_ Try.func17 (by kernel_rfl) rfl #[.agg #[.int .i64 t374, .int .i64 t375, .int .i64 t376, .int .i64 t377]] (by rfl) rfl rfl (by (try simp only [List.map_toArray, List.map_cons, List.map_nil]); first | done | rfl | (simp only [List.length_drop, List.length_take]; rfl)) ?_
           with_reducible refine (chequerlaw06_as.calls t374 t375 t376 t377 t398 t399 t400 t401 _ A50.out).mono ?_
           rintro e w78 ⟨rfl, hb⟩
           refine ⟨_, rfl, ?_⟩
           replace BK335 := Aside0.mk (blk_below (hp_ BK335.out) hb)
           replace BK397 := Aside0.mk (blk_below (hp_ BK397.out) hb)
           replace HB := Aside0.mk (below_step (by repeat (first | (with_reducible first | exact HB.out | apply below_alloc | apply pw_below_drewN | apply below_drew1 | refine below_set ?_ (IsS77.ge HI328.out) | refine below_set ?_ GE335.out | refine below_set ?_ GE397.out) | exact HB.out)) hb)
           replace HI328 := Aside0.mk (IsS77.below (by repeat (first | (with_reducible first | exact HI328.out | apply IsS77.alloc | apply IsS77.drewN | apply IsS77.drew | apply IsS77.set_0 | apply IsS77.set_1 | apply IsS77.set_2 | apply IsS77.set_3 | apply IsS77.set_4 | apply IsS77.set_5 | apply IsS77.set_6 | apply IsS77.set_7 | apply IsS77.set_8 | apply IsS77.set_9 | apply IsS77.set_10 | apply IsS77.set_11 | apply IsS77.set_12 | apply IsS77.set_13 | apply IsS77.set_14 | apply IsS77.set_15 | apply IsS77.set_16 | apply IsS77.set_17 | refine IsS77.far2 ?_ (by repeat (first | exact isTyR_of BK335.out | apply isTy_set | apply isTy_drewN | apply isTy_drew | apply isTy_alloc)) (by decide) | refine IsS77.far2 ?_ (by repeat (first | exact isTyR_of BK397.out | apply isTy_set | apply isTy_drewN | apply isTy_drew | apply isTy_alloc)) (by decide)) | exact HI328.out)) hb)
           (try clear hb)
           (try clear hb2)
           (try clear hk)
           (try clear hi)
           refine hK.out _ _ ⟨(blk_cell BK397.out 0).trans rfl, (blk_cell BK397.out 1).trans rfl, (blk_cell BK397.out 2).trans rfl, (blk_cell BK397.out 3).trans rfl, (blk_cell BK335.out 0).trans rfl, (blk_cell BK335.out 1).trans rfl, (blk_cell BK335.out 2).trans rfl, (blk_cell BK335.out 3).trans rfl⟩ (fun hHeld => ?_)
           clear hK K
           refine norm_ (a' := ?_) ?_ ?_
           rotate_left
           · show Act.put _ (some 81) _ = _
             simp only [Act.put, List.setIfInBounds_toArray, List.set_cons_zero, List.set_cons_succ, i64_w, i32_w]
             rfl
           refine pur_ (i := 3) (N := some 83) Fl69 (any_of HT_.out (by kernel_rfl)) ?_
           refine pur_ (i := 4) (N := some 84) Fl70 (any_of HT_.out (by kernel_rfl)) ?_
           refine pun_ (i := 5) (N := some 85) Fl71 (any_of HT_.out (by kernel_rfl)) ?_
           refine pun_ (i := 6) (N := some 86) Fl72 (any_of HT_.out (by kernel_rfl)) ?_
           refine pun_ (i := 7) (N := some 87) Fl73 (any_of HT_.out (by kernel_rfl)) ?_
           refine pur_ (i := 8) (N := some 88) Fl74 (any_of HT_.out (by kernel_rfl)) ?_
           refine pur_ (i := 9) (N := some 89) Fl75 (any_of HT_.out (by kernel_rfl)) ?_
           refine pun_ (i := 10) (N := some 90) Fl76 (any_of HT_.out (by kernel_rfl)) ?_
           refine pur_ (i := 11) (N := some 91) Fl77 (any_of HT_.out (by kernel_rfl)) ?_
           refine pur_ (i := 12) (N := some 8) Fl78 (any_of HT_.out (by kernel_rfl)) ?_
           refine done_ (done_of HT_.out (by kernel_rfl)) ?_
           try go_wp2
           go_ret
           exact ⟨by first | rfl | (simp [errW_none, errW_some] <;> rfl) | (simp [*, errW_none, errW_some] <;> rfl), by repeat (first | (with_reducible first | exact HB.out | apply below_alloc | apply pw_below_drewN | apply below_drew1 | refine below_set ?_ (IsS77.ge HI328.out) | refine below_set ?_ GE335.out | refine below_set ?_ GE397.out) | exact HB.out)⟩
       · rw [if_neg c49] at H
         have c49b0 : (t334 == 6) = false := beq_eq_false_iff_ne.mpr c49
         have c49b1 : (t334 != 6) = true := bne_iff_ne.mpr c49
         replace H := Option.bind_eq_some_iff.mp H
         obtain ⟨⟨t403, t404, t405, t406⟩, A790, H⟩ := H
         replace H : (if (t403 == t329 && (t404 == t330 && (t405 == t331 && (t406 == t332)))) = true then (if t378 = t334 then ((chequerlaw06_lives.f k2).bind fun t407 => (some t407)) else (some false)) else (some false)) = some r := H
         have A79 := Aside0.mk A790
         clear A790
         by_cases c80 : (t403 == t329 && (t404 == t330 && (t405 == t331 && (t406 == t332)))) = true
         · rw [if_pos c80] at H
           have c80b0 : (t403 == t329 && (t404 == t330 && (t405 == t331 && (t406 == t332)))) = true := c80
           (try (have c80b1 : decide (t403 = t329 && (t404 == t330 && (t405 == t331 && (t406 == t332)))) = true := by simpa using c80))
           (try (have c80b2 : (t403 == t329 && (t404 == t330 && (t405 == t331 && (t406 == t332)))) = true := by simpa using c80))
           clear c80
           by_cases c81 : t378 = t334
           · rw [if_pos c81] at H
             have c81b0 : (t378 == t334) = true := beq_iff_eq.mpr c81
             have c81b1 : (t378 != t334) = false := bne_eq_false_iff_eq.mpr c81
             clear c81
             replace H := Option.bind_eq_some_iff.mp H
             obtain ⟨t407, A820, H⟩ := H
             replace H : (some t407) = some r := H
             have A82 := Aside0.mk A820
             clear A820
             obtain rfl := Option.some.inj H
             try go_wp2_with (first | ((with_reducible refine gate_callee (f := 21) rfl ?_); refine goQ_ (some 75) Try.func21 #[.pointer (some ⟨g328, 0, none⟩)] ?_; (with_reducible refine (head_Reader_Head.calls g328 x329000_2 x329001_2 x329002_2 x329003_2 x329004_2 x329005_2 x329006_2 x329007_2 x329008_2 x329009_2 x329010_2 x329011_2 x329012_2 x329013_2 x329014_2 x329015_2 x329016_2 x329017_2 t374 t375 t376 t377 t378 t379 t380 t381 t382 t383 t384 t385 t386 t387 t388 t389 t390 t391 t392 t393 t394 t395 t396 w _ ?side1 ?side2 A48.out).mono ?_); (case side1 => repeat (first | (with_reducible first | exact HI328.out | apply IsS77.alloc | apply IsS77.drewN | apply IsS77.drew | apply IsS77.set_0 | apply IsS77.set_1 | apply IsS77.set_2 | apply IsS77.set_3 | apply IsS77.set_4 | apply IsS77.set_5 | apply IsS77.set_6 | apply IsS77.set_7 | apply IsS77.set_8 | apply IsS77.set_9 | apply IsS77.set_10 | apply IsS77.set_11 | apply IsS77.set_12 | apply IsS77.set_13 | apply IsS77.set_14 | apply IsS77.set_15 | apply IsS77.set_16 | apply IsS77.set_17 | refine IsS77.far2 ?_ (by repeat (first | exact isTyR_of BK335.out | apply isTy_set | apply isTy_drewN | apply isTy_drew | apply isTy_alloc)) (by decide)) | exact HI328.out)); (case side2 => repeat (first | (with_reducible first | exact HB.out | apply below_alloc | apply pw_below_drewN | apply below_drew1 | refine below_set ?_ (IsS77.ge HI328.out) | refine below_set ?_ GE335.out) | exact HB.out)); rintro e w83 ⟨rfl, hi, hb, hk⟩; refine ⟨_, rfl, ?_⟩; replace BK335 := Aside0.mk (HdKeep.blk hk (g' := gb335) (o := .cells #[.int .i64 t329, .int .i64 t330, .int .i64 t331, .int .i64 t332] 25 (0, 0)) (hp_ BK335.out) NB335_328.out (by simp)); replace HB := Aside0.mk (hb); replace HI328 := Aside0.mk (hi); (try clear hb); (try clear hb2); (try clear hk); (try clear hi)) | ((with_reducible refine gate_dst (N := 15) rfl ?_); refine box_event ?hg (N := 15) ?hd (cs := #[.int .i64 0, .int .i64 0, .int .i64 0, .int .i64 0]) (t := 36) ?hr ?_; (case hd => rfl); (case hg => rfl); (case hr => first | (go_simp; done) | (go_simp; rfl)); intro gb397 hg w84 hbox hb; have BK397 := Aside0.mk (hbox); have GW397 := Aside0.mk ((by rw [hg]; exact (below_size (by repeat (first | (with_reducible first | exact HB.out | apply below_alloc | apply pw_below_drewN | apply below_drew1 | refine below_set ?_ (IsS77.ge HI328.out) | refine below_set ?_ GE335.out) | exact HB.out))) : w.heap.size ≤ gb397)); have GE397 := Aside0.mk ((by rw [hg]; exact (below_size (by repeat (first | (with_reducible first | exact HB.out | apply below_alloc | apply pw_below_drewN | apply below_drew1 | refine below_set ?_ (IsS77.ge HI328.out) | refine below_set ?_ GE335.out) | exact HB.out))) : w.heap.size ≤ gb397)); replace HB := Aside0.mk (below_step (by repeat (first | (with_reducible first | exact HB.out | apply below_alloc | apply pw_below_drewN | apply below_drew1 | refine below_set ?_ (IsS77.ge HI328.out) | refine below_set ?_ GE335.out) | exact HB.out)) hb); have NB335_397 := Aside0.mk ((nlt_ hg (hp_ BK335.out))); have NB397_335 := Aside0.mk ((ngt_ hg (hp_ BK335.out))); replace BK335 := Aside0.mk (blk_below (hp_ BK335.out) hb); have NB328_397 := Aside0.mk ((by rw [hg]; exact Nat.ne_of_lt (IsS77.lt (show IsS77 w _ g328 t379 t380 t381 t382 t383 t384 t385 t386 t387 t388 t389 t390 t391 t392 t393 t394 t395 t396 from by repeat (first | (with_reducible first | exact HI328.out | apply IsS77.alloc | apply IsS77.drewN | apply IsS77.drew | apply IsS77.set_0 | apply IsS77.set_1 | apply IsS77.set_2 | apply IsS77.set_3 | apply IsS77.set_4 | apply IsS77.set_5 | apply IsS77.set_6 | apply IsS77.set_7 | apply IsS77.set_8 | apply IsS77.set_9 | apply IsS77.set_10 | apply IsS77.set_11 | apply IsS77.set_12 | apply IsS77.set_13 | apply IsS77.set_14 | apply IsS77.set_15 | apply IsS77.set_16 | apply IsS77.set_17 | refine IsS77.far2 ?_ (by repeat (first | exact isTyR_of BK335.out | apply isTy_set | apply isTy_drewN | apply isTy_drew | apply isTy_alloc)) (by decide)) | exact HI328.out))) : g328 ≠ gb397)); have NB397_328 := Aside0.mk ((by rw [hg]; exact Nat.ne_of_gt (IsS77.lt (show IsS77 w _ g328 t379 t380 t381 t382 t383 t384 t385 t386 t387 t388 t389 t390 t391 t392 t393 t394 t395 t396 from by repeat (first | (with_reducible first | exact HI328.out | apply IsS77.alloc | apply IsS77.drewN | apply IsS77.drew | apply IsS77.set_0 | apply IsS77.set_1 | apply IsS77.set_2 | apply IsS77.set_3 | apply IsS77.set_4 | apply IsS77.set_5 | apply IsS77.set_6 | apply IsS77.set_7 | apply IsS77.set_8 | apply IsS77.set_9 | apply IsS77.set_10 | apply IsS77.set_11 | apply IsS77.set_12 | apply IsS77.set_13 | apply IsS77.set_14 | apply IsS77.set_15 | apply IsS77.set_16 | apply IsS77.set_17 | refine IsS77.far2 ?_ (by repeat (first | exact isTyR_of BK335.out | apply isTy_set | apply isTy_drewN | apply isTy_drew | apply isTy_alloc)) (by decide)) | exact HI328.out))) : gb397 ≠ g328)); replace HI328 := Aside0.mk (IsS77.below (by repeat (first | (with_reducible first | exact HI328.out | apply IsS77.alloc | apply IsS77.drewN | apply IsS77.drew | apply IsS77.set_0 | apply IsS77.set_1 | apply IsS77.set_2 | apply IsS77.set_3 | apply IsS77.set_4 | apply IsS77.set_5 | apply IsS77.set_6 | apply IsS77.set_7 | apply IsS77.set_8 | apply IsS77.set_9 | apply IsS77.set_10 | apply IsS77.set_11 | apply IsS77.set_12 | apply IsS77.set_13 | apply IsS77.set_14 | apply IsS77.set_15 | apply IsS77.set_16 | apply IsS77.set_17 | refine IsS77.far2 ?_ (by repeat (first | exact isTyR_of BK335.out | apply isTy_set | apply isTy_drewN | apply isTy_drew | apply isTy_alloc)) (by decide)) | exact HI328.out)) hb); clear hb hbox hg; have hnb85 := NB397_335.out; have hnc85 := NB335_397.out; have hnb86 := NB397_328.out; have hnc86 := NB328_397.out; have hcz87_0 : w84.cell? ⟨gb397, 0, none⟩ = some (.int .i64 0) := (blk_cell BK397.out 0).trans rfl; have hcz87_1 : w84.cell? ⟨gb397, 1, none⟩ = some (.int .i64 0) := (blk_cell BK397.out 1).trans rfl; have hcz87_2 : w84.cell? ⟨gb397, 2, none⟩ = some (.int .i64 0) := (blk_cell BK397.out 2).trans rfl; have hcz87_3 : w84.cell? ⟨gb397, 3, none⟩ = some (.int .i64 0) := (blk_cell BK397.out 3).trans rfl; have hfz87_0 := blk_frozen BK397.out 0; have hfz87_1 := blk_frozen BK397.out 1; have hfz87_2 := blk_frozen BK397.out 2; have hfz87_3 := blk_frozen BK397.out 3))
             have n0_ : Aside0 (((((w84.setCell ⟨gb397, 0, none⟩ (.int .i64 t374)).setCell ⟨gb397, 1, none⟩ (.int .i64 t375)).setCell ⟨gb397, 2, none⟩ (.int .i64 t376)).setCell ⟨gb397, 3, none⟩ (.int .i64 t377)).heap[gb335]? = some (.cells #[.int .i64 t329, .int .i64 t330, .int .i64 t331, .int .i64 t332] 25 (0, 0))) := ⟨hf_ BK335.out NB335_397.out⟩
             have n1_ : Aside0 (((((w84.setCell ⟨gb397, 0, none⟩ (.int .i64 t374)).setCell ⟨gb397, 1, none⟩ (.int .i64 t375)).setCell ⟨gb397, 2, none⟩ (.int .i64 t376)).setCell ⟨gb397, 3, none⟩ (.int .i64 t377)).heap[gb397]? = some (.cells #[.int .i64 t374, .int .i64 t375, .int .i64 t376, .int .i64 t377] 36 (0, 0))) := ⟨by (with_reducible repeat (first | refine blk_drewN ?_ _ | refine blk_drew ?_ | refine blk_alloc ?_ _)); refine blk_put (cs := #[.int .i64 t374, .int .i64 t375, .int .i64 t376, .int .i64 0]) ?_ 3 _ rfl; (with_reducible repeat (first | refine blk_drewN ?_ _ | refine blk_drew ?_ | refine blk_alloc ?_ _)); refine blk_put (cs := #[.int .i64 t374, .int .i64 t375, .int .i64 0, .int .i64 0]) ?_ 2 _ rfl; (with_reducible repeat (first | refine blk_drewN ?_ _ | refine blk_drew ?_ | refine blk_alloc ?_ _)); refine blk_put (cs := #[.int .i64 t374, .int .i64 0, .int .i64 0, .int .i64 0]) ?_ 1 _ rfl; (with_reducible repeat (first | refine blk_drewN ?_ _ | refine blk_drew ?_ | refine blk_alloc ?_ _)); refine blk_put (cs := #[.int .i64 0, .int .i64 0, .int .i64 0, .int .i64 0]) ?_ 0 _ rfl; (with_reducible repeat (first | refine blk_drewN ?_ _ | refine blk_drew ?_ | refine blk_alloc ?_ _)); exact BK397.out⟩
             have n2_ : Aside0 (IsS77 w ((((w84.setCell ⟨gb397, 0, none⟩ (.int .i64 t374)).setCell ⟨gb397, 1, none⟩ (.int .i64 t375)).setCell ⟨gb397, 2, none⟩ (.int .i64 t376)).setCell ⟨gb397, 3, none⟩ (.int .i64 t377)) g328 t379 t380 t381 t382 t383 t384 t385 t386 t387 t388 t389 t390 t391 t392 t393 t394 t395 t396) := ⟨by repeat (first | (with_reducible first | exact HI328.out | apply IsS77.alloc | apply IsS77.drewN | apply IsS77.drew | apply IsS77.set_0 | apply IsS77.set_1 | apply IsS77.set_2 | apply IsS77.set_3 | apply IsS77.set_4 | apply IsS77.set_5 | apply IsS77.set_6 | apply IsS77.set_7 | apply IsS77.set_8 | apply IsS77.set_9 | apply IsS77.set_10 | apply IsS77.set_11 | apply IsS77.set_12 | apply IsS77.set_13 | apply IsS77.set_14 | apply IsS77.set_15 | apply IsS77.set_16 | apply IsS77.set_17 | refine IsS77.far2 ?_ (by repeat (first | exact isTyR_of BK335.out | apply isTy_set | apply isTy_drewN | apply isTy_drew | apply isTy_alloc)) (by decide) | refine IsS77.far2 ?_ (by repeat (first | exact isTyR_of BK397.out | apply isTy_set | apply isTy_drewN | apply isTy_drew | apply isTy_alloc)) (by decide)) | exact HI328.out)⟩
             have n3_ : Aside0 (Below w.heap.size w ((((w84.setCell ⟨gb397, 0, none⟩ (.int .i64 t374)).setCell ⟨gb397, 1, none⟩ (.int .i64 t375)).setCell ⟨gb397, 2, none⟩ (.int .i64 t376)).setCell ⟨gb397, 3, none⟩ (.int .i64 t377))) := ⟨by repeat (first | (with_reducible first | exact HB.out | apply below_alloc | apply pw_below_drewN | apply below_drew1 | refine below_set ?_ (IsS77.ge HI328.out) | refine below_set ?_ GE335.out | refine below_set ?_ GE397.out) | exact HB.out)⟩
             (try clear BK335)
             (try clear BK397)
             (try clear HI328)
             (try clear HB)
             generalize ((((w84.setCell ⟨gb397, 0, none⟩ (.int .i64 t374)).setCell ⟨gb397, 1, none⟩ (.int .i64 t375)).setCell ⟨gb397, 2, none⟩ (.int .i64 t376)).setCell ⟨gb397, 3, none⟩ (.int .i64 t377)) = w88 at n0_ n1_ n2_ n3_ ⊢
             have BK335 := n0_
             have BK397 := n1_
             have HI328 := n2_
             have HB := n3_
             clear n0_ n1_ n2_ n3_
             replace BK335 := Aside0.mk (blk_drew BK335.out)
             replace BK397 := Aside0.mk (blk_drew BK397.out)
             replace HI328 := Aside0.mk (IsS77.drew HI328.out)
             replace HB := Aside0.mk (below_drew1 HB.out)
             refine start_ (n := 13) (S := fun w' => w'.cell? ⟨gb397, 0, none⟩ = some (.int .i64 t374) ∧ w'.cell? ⟨gb397, 1, none⟩ = some (.int .i64 t375) ∧ w'.cell? ⟨gb397, 2, none⟩ = some (.int .i64 t376) ∧ w'.cell? ⟨gb397, 3, none⟩ = some (.int .i64 t377) ∧ w'.cell? ⟨gb335, 0, none⟩ = some (.int .i64 t329) ∧ w'.cell? ⟨gb335, 1, none⟩ = some (.int .i64 t330) ∧ w'.cell? ⟨gb335, 2, none⟩ = some (.int .i64 t331) ∧ w'.cell? ⟨gb335, 3, none⟩ = some (.int .i64 t332)) (ds := []) Fl65 (by kernel_rfl) rfl rfl ⟨(blk_cell BK397.out 0).trans rfl, (blk_cell BK397.out 1).trans rfl, (blk_cell BK397.out 2).trans rfl, (blk_cell BK397.out 3).trans rfl, (blk_cell BK335.out 0).trans rfl, (blk_cell BK335.out 1).trans rfl, (blk_cell BK335.out 2).trans rfl, (blk_cell BK335.out 3).trans rfl⟩ (fun hHeld => ?_); refine with_tabW chequerlaw06_HeadReads.tab21 chequerlaw06_HeadReads.bits21 (fun HT_ HW_ => ?_)
             generalize w88.drew = w89 at BK335 BK397 HI328 HB hHeld ⊢
             refine take_ (i := 0) (N := some 80) (v := ?_) (a' := ?_) Fl66 rfl rfl (take_ofW HT_.out HW_.out (by kernel_rfl)) (fun _ _ _ h => h) (Or.inl ⟨by rfl, ?_⟩) hHeld ?_ ?_
             rotate_left
             · rintro w' ⟨s0, s1, s2, s3, s4, s5, s6, s7⟩
               go_simp
               with_reducible rfl
             rotate_left
             · simp only [Act.put, List.setIfInBounds_toArray, List.set_cons_zero, List.set_cons_succ, i64_w, i32_w]
               rfl
             refine take_ (i := 2) (N := some 82) (v := ?_) (a' := ?_) Fl67 rfl rfl (take_ofW HT_.out HW_.out (by kernel_rfl)) (fun _ _ _ h => h) (Or.inl ⟨by rfl, ?_⟩) hHeld ?_ ?_
             rotate_left
             · rintro w' ⟨s0, s1, s2, s3, s4, s5, s6, s7⟩
               go_simp
               with_reducible rfl
             rotate_left
             · simp only [Act.put, List.setIfInBounds_toArray, List.set_cons_zero, List.set_cons_succ, i64_w, i32_w]
               rfl
             refine one_ (i := 1) (N := some 81) Fl68 rfl rfl (one_of HT_.out (by kernel_rfl)) (by decide) (fun K hK => ?_)
             refine goes_ Try.func17 (by kernel_rfl) rfl #[.agg #[.int .i64 t374, .int .i64 t375, .int .i64 t376, .int .i64 t377]] (by rfl) rfl rfl (by (try simp only [List.map_toArray, List.map_cons, List.map_nil]); first | done | rfl | (simp only [List.length_drop, List.length_take]; rfl)) ?_
             with_reducible refine (chequerlaw06_as.calls t374 t375 t376 t377 t403 t404 t405 t406 _ A79.out).mono ?_
             rintro e w90 ⟨rfl, hb⟩
             refine ⟨_, rfl, ?_⟩
             replace BK335 := Aside0.mk (blk_below (hp_ BK335.out) hb)
             replace BK397 := Aside0.mk (blk_below (hp_ BK397.out) hb)
             replace HB := Aside0.mk (below_step (by repeat (first | (with_reducible first | exact HB.out | apply below_alloc | apply pw_below_drewN | apply below_drew1 | refine below_set ?_ (IsS77.ge HI328.out) | refine below_set ?_ GE335.out | refine below_set ?_ GE397.out) | exact HB.out)) hb)
             replace HI328 := Aside0.mk (IsS77.below (by repeat (first | (with_reducible first | exact HI328.out | apply IsS77.alloc | apply IsS77.drewN | apply IsS77.drew | apply IsS77.set_0 | apply IsS77.set_1 | apply IsS77.set_2 | apply IsS77.set_3 | apply IsS77.set_4 | apply IsS77.set_5 | apply IsS77.set_6 | apply IsS77.set_7 | apply IsS77.set_8 | apply IsS77.set_9 | apply IsS77.set_10 | apply IsS77.set_11 | apply IsS77.set_12 | apply IsS77.set_13 | apply IsS77.set_14 | apply IsS77.set_15 | apply IsS77.set_16 | apply IsS77.set_17 | refine IsS77.far2 ?_ (by repeat (first | exact isTyR_of BK335.out | apply isTy_set | apply isTy_drewN | apply isTy_drew | apply isTy_alloc)) (by decide) | refine IsS77.far2 ?_ (by repeat (first | exact isTyR_of BK397.out | apply isTy_set | apply isTy_drewN | apply isTy_drew | apply isTy_alloc)) (by decide)) | exact HI328.out)) hb)
             (try clear hb)
             (try clear hb2)
             (try clear hk)
             (try clear hi)
             refine hK.out _ _ ⟨(blk_cell BK397.out 0).trans rfl, (blk_cell BK397.out 1).trans rfl, (blk_cell BK397.out 2).trans rfl, (blk_cell BK397.out 3).trans rfl, (blk_cell BK335.out 0).trans rfl, (blk_cell BK335.out 1).trans rfl, (blk_cell BK335.out 2).trans rfl, (blk_cell BK335.out 3).trans rfl⟩ (fun hHeld => ?_)
             clear hK K
             refine norm_ (a' := ?_) ?_ ?_
             rotate_left
             · show Act.put _ (some 81) _ = _
               simp only [Act.put, List.setIfInBounds_toArray, List.set_cons_zero, List.set_cons_succ, i64_w, i32_w]
               rfl
             refine pur_ (i := 3) (N := some 83) Fl69 (any_of HT_.out (by kernel_rfl)) ?_
             refine pur_ (i := 4) (N := some 84) Fl70 (any_of HT_.out (by kernel_rfl)) ?_
             refine pur_ (i := 5) (N := some 85) Fl71 (any_of HT_.out (by kernel_rfl)) ?_
             refine pur_ (i := 6) (N := some 86) Fl72 (any_of HT_.out (by kernel_rfl)) ?_
             refine pur_ (i := 7) (N := some 87) Fl73 (any_of HT_.out (by kernel_rfl)) ?_
             refine pur_ (i := 8) (N := some 88) Fl74 (any_of HT_.out (by kernel_rfl)) ?_
             refine pur_ (i := 9) (N := some 89) Fl75 (any_of HT_.out (by kernel_rfl)) ?_
             refine one_ (i := 10) (N := some 90) Fl76 rfl rfl (one_of HT_.out (by kernel_rfl)) (by decide) (fun K hK => ?_)
             refine goes_ Try.func12 (by kernel_rfl) rfl #[] (by rfl) rfl rfl (by (try simp only [List.map_toArray, List.map_cons, List.map_nil]); first | done | rfl | (simp only [List.length_drop, List.length_take]; rfl)) ?_
             with_reducible refine (chequerlaw06_lives.calls k2  t407 _ A82.out).mono ?_
             rintro e w91 ⟨rfl, hb⟩
             refine ⟨_, rfl, ?_⟩
             replace BK335 := Aside0.mk (blk_below (hp_ BK335.out) hb)
             replace BK397 := Aside0.mk (blk_below (hp_ BK397.out) hb)
             replace HB := Aside0.mk (below_step (by repeat (first | (with_reducible first | exact HB.out | apply below_alloc | apply pw_below_drewN | apply below_drew1 | refine below_set ?_ (IsS77.ge HI328.out) | refine below_set ?_ GE335.out | refine below_set ?_ GE397.out) | exact HB.out)) hb)
             replace HI328 := Aside0.mk (IsS77.below (by repeat (first | (with_reducible first | exact HI328.out | apply IsS77.alloc | apply IsS77.drewN | apply IsS77.drew | apply IsS77.set_0 | apply IsS77.set_1 | apply IsS77.set_2 | apply IsS77.set_3 | apply IsS77.set_4 | apply IsS77.set_5 | apply IsS77.set_6 | apply IsS77.set_7 | apply IsS77.set_8 | apply IsS77.set_9 | apply IsS77.set_10 | apply IsS77.set_11 | apply IsS77.set_12 | apply IsS77.set_13 | apply IsS77.set_14 | apply IsS77.set_15 | apply IsS77.set_16 | apply IsS77.set_17 | refine IsS77.far2 ?_ (by repeat (first | exact isTyR_of BK335.out | apply isTy_set | apply isTy_drewN | apply isTy_drew | apply isTy_alloc)) (by decide) | refine IsS77.far2 ?_ (by repeat (first | exact isTyR_of BK397.out | apply isTy_set | apply isTy_drewN | apply isTy_drew | apply isTy_alloc)) (by decide)) | exact HI328.out)) hb)
             (try clear hb)
             (try clear hb2)
             (try clear hk)
             (try clear hi)
             refine hK.out _ _ ⟨(blk_cell BK397.out 0).trans rfl, (blk_cell BK397.out 1).trans rfl, (blk_cell BK397.out 2).trans rfl, (blk_cell BK397.out 3).trans rfl, (blk_cell BK335.out 0).trans rfl, (blk_cell BK335.out 1).trans rfl, (blk_cell BK335.out 2).trans rfl, (blk_cell BK335.out 3).trans rfl⟩ (fun hHeld => ?_)
             clear hK K
             refine norm_ (a' := ?_) ?_ ?_
             rotate_left
             · show Act.put _ (some 90) _ = _
               simp only [Act.put, List.setIfInBounds_toArray, List.set_cons_zero, List.set_cons_succ, i64_w, i32_w]
               rfl
             refine pur_ (i := 11) (N := some 91) Fl77 (any_of HT_.out (by kernel_rfl)) ?_
             refine pur_ (i := 12) (N := some 8) Fl78 (any_of HT_.out (by kernel_rfl)) ?_
             refine done_ (done_of HT_.out (by kernel_rfl)) ?_
             try go_wp2
             go_ret
             exact ⟨by first | rfl | (simp [errW_none, errW_some] <;> rfl) | (simp [*, errW_none, errW_some] <;> rfl), by repeat (first | (with_reducible first | exact HB.out | apply below_alloc | apply pw_below_drewN | apply below_drew1 | refine below_set ?_ (IsS77.ge HI328.out) | refine below_set ?_ GE335.out | refine below_set ?_ GE397.out) | exact HB.out)⟩
           · rw [if_neg c81] at H
             have c81b0 : (t378 == t334) = false := beq_eq_false_iff_ne.mpr c81
             have c81b1 : (t378 != t334) = true := bne_iff_ne.mpr c81
             obtain rfl := Option.some.inj H
             try go_wp2_with (first | ((with_reducible refine gate_callee (f := 21) rfl ?_); refine goQ_ (some 75) Try.func21 #[.pointer (some ⟨g328, 0, none⟩)] ?_; (with_reducible refine (head_Reader_Head.calls g328 x329000_2 x329001_2 x329002_2 x329003_2 x329004_2 x329005_2 x329006_2 x329007_2 x329008_2 x329009_2 x329010_2 x329011_2 x329012_2 x329013_2 x329014_2 x329015_2 x329016_2 x329017_2 t374 t375 t376 t377 t378 t379 t380 t381 t382 t383 t384 t385 t386 t387 t388 t389 t390 t391 t392 t393 t394 t395 t396 w _ ?side1 ?side2 A48.out).mono ?_); (case side1 => repeat (first | (with_reducible first | exact HI328.out | apply IsS77.alloc | apply IsS77.drewN | apply IsS77.drew | apply IsS77.set_0 | apply IsS77.set_1 | apply IsS77.set_2 | apply IsS77.set_3 | apply IsS77.set_4 | apply IsS77.set_5 | apply IsS77.set_6 | apply IsS77.set_7 | apply IsS77.set_8 | apply IsS77.set_9 | apply IsS77.set_10 | apply IsS77.set_11 | apply IsS77.set_12 | apply IsS77.set_13 | apply IsS77.set_14 | apply IsS77.set_15 | apply IsS77.set_16 | apply IsS77.set_17 | refine IsS77.far2 ?_ (by repeat (first | exact isTyR_of BK335.out | apply isTy_set | apply isTy_drewN | apply isTy_drew | apply isTy_alloc)) (by decide)) | exact HI328.out)); (case side2 => repeat (first | (with_reducible first | exact HB.out | apply below_alloc | apply pw_below_drewN | apply below_drew1 | refine below_set ?_ (IsS77.ge HI328.out) | refine below_set ?_ GE335.out) | exact HB.out)); rintro e w92 ⟨rfl, hi, hb, hk⟩; refine ⟨_, rfl, ?_⟩; replace BK335 := Aside0.mk (HdKeep.blk hk (g' := gb335) (o := .cells #[.int .i64 t329, .int .i64 t330, .int .i64 t331, .int .i64 t332] 25 (0, 0)) (hp_ BK335.out) NB335_328.out (by simp)); replace HB := Aside0.mk (hb); replace HI328 := Aside0.mk (hi); (try clear hb); (try clear hb2); (try clear hk); (try clear hi)) | ((with_reducible refine gate_dst (N := 15) rfl ?_); refine box_event ?hg (N := 15) ?hd (cs := #[.int .i64 0, .int .i64 0, .int .i64 0, .int .i64 0]) (t := 36) ?hr ?_; (case hd => rfl); (case hg => rfl); (case hr => first | (go_simp; done) | (go_simp; rfl)); intro gb397 hg w93 hbox hb; have BK397 := Aside0.mk (hbox); have GW397 := Aside0.mk ((by rw [hg]; exact (below_size (by repeat (first | (with_reducible first | exact HB.out | apply below_alloc | apply pw_below_drewN | apply below_drew1 | refine below_set ?_ (IsS77.ge HI328.out) | refine below_set ?_ GE335.out) | exact HB.out))) : w.heap.size ≤ gb397)); have GE397 := Aside0.mk ((by rw [hg]; exact (below_size (by repeat (first | (with_reducible first | exact HB.out | apply below_alloc | apply pw_below_drewN | apply below_drew1 | refine below_set ?_ (IsS77.ge HI328.out) | refine below_set ?_ GE335.out) | exact HB.out))) : w.heap.size ≤ gb397)); replace HB := Aside0.mk (below_step (by repeat (first | (with_reducible first | exact HB.out | apply below_alloc | apply pw_below_drewN | apply below_drew1 | refine below_set ?_ (IsS77.ge HI328.out) | refine below_set ?_ GE335.out) | exact HB.out)) hb); have NB335_397 := Aside0.mk ((nlt_ hg (hp_ BK335.out))); have NB397_335 := Aside0.mk ((ngt_ hg (hp_ BK335.out))); replace BK335 := Aside0.mk (blk_below (hp_ BK335.out) hb); have NB328_397 := Aside0.mk ((by rw [hg]; exact Nat.ne_of_lt (IsS77.lt (show IsS77 w _ g328 t379 t380 t381 t382 t383 t384 t385 t386 t387 t388 t389 t390 t391 t392 t393 t394 t395 t396 from by repeat (first | (with_reducible first | exact HI328.out | apply IsS77.alloc | apply IsS77.drewN | apply IsS77.drew | apply IsS77.set_0 | apply IsS77.set_1 | apply IsS77.set_2 | apply IsS77.set_3 | apply IsS77.set_4 | apply IsS77.set_5 | apply IsS77.set_6 | apply IsS77.set_7 | apply IsS77.set_8 | apply IsS77.set_9 | apply IsS77.set_10 | apply IsS77.set_11 | apply IsS77.set_12 | apply IsS77.set_13 | apply IsS77.set_14 | apply IsS77.set_15 | apply IsS77.set_16 | apply IsS77.set_17 | refine IsS77.far2 ?_ (by repeat (first | exact isTyR_of BK335.out | apply isTy_set | apply isTy_drewN | apply isTy_drew | apply isTy_alloc)) (by decide)) | exact HI328.out))) : g328 ≠ gb397)); have NB397_328 := Aside0.mk ((by rw [hg]; exact Nat.ne_of_gt (IsS77.lt (show IsS77 w _ g328 t379 t380 t381 t382 t383 t384 t385 t386 t387 t388 t389 t390 t391 t392 t393 t394 t395 t396 from by repeat (first | (with_reducible first | exact HI328.out | apply IsS77.alloc | apply IsS77.drewN | apply IsS77.drew | apply IsS77.set_0 | apply IsS77.set_1 | apply IsS77.set_2 | apply IsS77.set_3 | apply IsS77.set_4 | apply IsS77.set_5 | apply IsS77.set_6 | apply IsS77.set_7 | apply IsS77.set_8 | apply IsS77.set_9 | apply IsS77.set_10 | apply IsS77.set_11 | apply IsS77.set_12 | apply IsS77.set_13 | apply IsS77.set_14 | apply IsS77.set_15 | apply IsS77.set_16 | apply IsS77.set_17 | refine IsS77.far2 ?_ (by repeat (first | exact isTyR_of BK335.out | apply isTy_set | apply isTy_drewN | apply isTy_drew | apply isTy_alloc)) (by decide)) | exact HI328.out))) : gb397 ≠ g328)); replace HI328 := Aside0.mk (IsS77.below (by repeat (first | (with_reducible first | exact HI328.out | apply IsS77.alloc | apply IsS77.drewN | apply IsS77.drew | apply IsS77.set_0 | apply IsS77.set_1 | apply IsS77.set_2 | apply IsS77.set_3 | apply IsS77.set_4 | apply IsS77.set_5 | apply IsS77.set_6 | apply IsS77.set_7 | apply IsS77.set_8 | apply IsS77.set_9 | apply IsS77.set_10 | apply IsS77.set_11 | apply IsS77.set_12 | apply IsS77.set_13 | apply IsS77.set_14 | apply IsS77.set_15 | apply IsS77.set_16 | apply IsS77.set_17 | refine IsS77.far2 ?_ (by repeat (first | exact isTyR_of BK335.out | apply isTy_set | apply isTy_drewN | apply isTy_drew | apply isTy_alloc)) (by decide)) | exact HI328.out)) hb); clear hb hbox hg; have hnb94 := NB397_335.out; have hnc94 := NB335_397.out; have hnb95 := NB397_328.out; have hnc95 := NB328_397.out; have hcz96_0 : w93.cell? ⟨gb397, 0, none⟩ = some (.int .i64 0) := (blk_cell BK397.out 0).trans rfl; have hcz96_1 : w93.cell? ⟨gb397, 1, none⟩ = some (.int .i64 0) := (blk_cell BK397.out 1).trans rfl; have hcz96_2 : w93.cell? ⟨gb397, 2, none⟩ = some (.int .i64 0) := (blk_cell BK397.out 2).trans rfl; have hcz96_3 : w93.cell? ⟨gb397, 3, none⟩ = some (.int .i64 0) := (blk_cell BK397.out 3).trans rfl; have hfz96_0 := blk_frozen BK397.out 0; have hfz96_1 := blk_frozen BK397.out 1; have hfz96_2 := blk_frozen BK397.out 2; have hfz96_3 := blk_frozen BK397.out 3))
             have n0_ : Aside0 (((((w93.setCell ⟨gb397, 0, none⟩ (.int .i64 t374)).setCell ⟨gb397, 1, none⟩ (.int .i64 t375)).setCell ⟨gb397, 2, none⟩ (.int .i64 t376)).setCell ⟨gb397, 3, none⟩ (.int .i64 t377)).heap[gb335]? = some (.cells #[.int .i64 t329, .int .i64 t330, .int .i64 t331, .int .i64 t332] 25 (0, 0))) := ⟨hf_ BK335.out NB335_397.out⟩
             have n1_ : Aside0 (((((w93.setCell ⟨gb397, 0, none⟩ (.int .i64 t374)).setCell ⟨gb397, 1, none⟩ (.int .i64 t375)).setCell ⟨gb397, 2, none⟩ (.int .i64 t376)).setCell ⟨gb397, 3, none⟩ (.int .i64 t377)).heap[gb397]? = some (.cells #[.int .i64 t374, .int .i64 t375, .int .i64 t376, .int .i64 t377] 36 (0, 0))) := ⟨by (with_reducible repeat (first | refine blk_drewN ?_ _ | refine blk_drew ?_ | refine blk_alloc ?_ _)); refine blk_put (cs := #[.int .i64 t374, .int .i64 t375, .int .i64 t376, .int .i64 0]) ?_ 3 _ rfl; (with_reducible repeat (first | refine blk_drewN ?_ _ | refine blk_drew ?_ | refine blk_alloc ?_ _)); refine blk_put (cs := #[.int .i64 t374, .int .i64 t375, .int .i64 0, .int .i64 0]) ?_ 2 _ rfl; (with_reducible repeat (first | refine blk_drewN ?_ _ | refine blk_drew ?_ | refine blk_alloc ?_ _)); refine blk_put (cs := #[.int .i64 t374, .int .i64 0, .int .i64 0, .int .i64 0]) ?_ 1 _ rfl; (with_reducible repeat (first | refine blk_drewN ?_ _ | refine blk_drew ?_ | refine blk_alloc ?_ _)); refine blk_put (cs := #[.int .i64 0, .int .i64 0, .int .i64 0, .int .i64 0]) ?_ 0 _ rfl; (with_reducible repeat (first | refine blk_drewN ?_ _ | refine blk_drew ?_ | refine blk_alloc ?_ _)); exact BK397.out⟩
             have n2_ : Aside0 (IsS77 w ((((w93.setCell ⟨gb397, 0, none⟩ (.int .i64 t374)).setCell ⟨gb397, 1, none⟩ (.int .i64 t375)).setCell ⟨gb397, 2, none⟩ (.int .i64 t376)).setCell ⟨gb397, 3, none⟩ (.int .i64 t377)) g328 t379 t380 t381 t382 t383 t384 t385 t386 t387 t388 t389 t390 t391 t392 t393 t394 t395 t396) := ⟨by repeat (first | (with_reducible first | exact HI328.out | apply IsS77.alloc | apply IsS77.drewN | apply IsS77.drew | apply IsS77.set_0 | apply IsS77.set_1 | apply IsS77.set_2 | apply IsS77.set_3 | apply IsS77.set_4 | apply IsS77.set_5 | apply IsS77.set_6 | apply IsS77.set_7 | apply IsS77.set_8 | apply IsS77.set_9 | apply IsS77.set_10 | apply IsS77.set_11 | apply IsS77.set_12 | apply IsS77.set_13 | apply IsS77.set_14 | apply IsS77.set_15 | apply IsS77.set_16 | apply IsS77.set_17 | refine IsS77.far2 ?_ (by repeat (first | exact isTyR_of BK335.out | apply isTy_set | apply isTy_drewN | apply isTy_drew | apply isTy_alloc)) (by decide) | refine IsS77.far2 ?_ (by repeat (first | exact isTyR_of BK397.out | apply isTy_set | apply isTy_drewN | apply isTy_drew | apply isTy_alloc)) (by decide)) | exact HI328.out)⟩
             have n3_ : Aside0 (Below w.heap.size w ((((w93.setCell ⟨gb397, 0, none⟩ (.int .i64 t374)).setCell ⟨gb397, 1, none⟩ (.int .i64 t375)).setCell ⟨gb397, 2, none⟩ (.int .i64 t376)).setCell ⟨gb397, 3, none⟩ (.int .i64 t377))) := ⟨by repeat (first | (with_reducible first | exact HB.out | apply below_alloc | apply pw_below_drewN | apply below_drew1 | refine below_set ?_ (IsS77.ge HI328.out) | refine below_set ?_ GE335.out | refine below_set ?_ GE397.out) | exact HB.out)⟩
             (try clear BK335)
             (try clear BK397)
             (try clear HI328)
             (try clear HB)
             generalize ((((w93.setCell ⟨gb397, 0, none⟩ (.int .i64 t374)).setCell ⟨gb397, 1, none⟩ (.int .i64 t375)).setCell ⟨gb397, 2, none⟩ (.int .i64 t376)).setCell ⟨gb397, 3, none⟩ (.int .i64 t377)) = w97 at n0_ n1_ n2_ n3_ ⊢
             have BK335 := n0_
             have BK397 := n1_
             have HI328 := n2_
             have HB := n3_
             clear n0_ n1_ n2_ n3_
             replace BK335 := Aside0.mk (blk_drew BK335.out)
             replace BK397 := Aside0.mk (blk_drew BK397.out)
             replace HI328 := Aside0.mk (IsS77.drew HI328.out)
             replace HB := Aside0.mk (below_drew1 HB.out)
             refine start_ (n := 13) (S := fun w' => w'.cell? ⟨gb397, 0, none⟩ = some (.int .i64 t374) ∧ w'.cell? ⟨gb397, 1, none⟩ = some (.int .i64 t375) ∧ w'.cell? ⟨gb397, 2, none⟩ = some (.int .i64 t376) ∧ w'.cell? ⟨gb397, 3, none⟩ = some (.int .i64 t377) ∧ w'.cell? ⟨gb335, 0, none⟩ = some (.int .i64 t329) ∧ w'.cell? ⟨gb335, 1, none⟩ = some (.int .i64 t330) ∧ w'.cell? ⟨gb335, 2, none⟩ = some (.int .i64 t331) ∧ w'.cell? ⟨gb335, 3, none⟩ = some (.int .i64 t332)) (ds := []) Fl65 (by kernel_rfl) rfl rfl ⟨(blk_cell BK397.out 0).trans rfl, (blk_cell BK397.out 1).trans rfl, (blk_cell BK397.out 2).trans rfl, (blk_cell BK397.out 3).trans rfl, (blk_cell BK335.out 0).trans rfl, (blk_cell BK335.out 1).trans rfl, (blk_cell BK335.out 2).trans rfl, (blk_cell BK335.out 3).trans rfl⟩ (fun hHeld => ?_); refine with_tabW chequerlaw06_HeadReads.tab21 chequerlaw06_HeadReads.bits21 (fun HT_ HW_ => ?_)
             generalize w97.drew = w98 at BK335 BK397 HI328 HB hHeld ⊢
             refine take_ (i := 0) (N := some 80) (v := ?_) (a' := ?_) Fl66 rfl rfl (take_ofW HT_.out HW_.out (by kernel_rfl)) (fun _ _ _ h => h) (Or.inl ⟨by rfl, ?_⟩) hHeld ?_ ?_
             rotate_left
             · rintro w' ⟨s0, s1, s2, s3, s4, s5, s6, s7⟩
               go_simp
               with_reducible rfl
             rotate_left
             · simp only [Act.put, List.setIfInBounds_toArray, List.set_cons_zero, List.set_cons_succ, i64_w, i32_w]
               rfl
             refine take_ (i := 2) (N := some 82) (v := ?_) (a' := ?_) Fl67 rfl rfl (take_ofW HT_.out HW_.out (by kernel_rfl)) (fun _ _ _ h => h) (Or.inl ⟨by rfl, ?_⟩) hHeld ?_ ?_
             rotate_left
             · rintro w' ⟨s0, s1, s2, s3, s4, s5, s6, s7⟩
               go_simp
               with_reducible rfl
             rotate_left
             · simp only [Act.put, List.setIfInBounds_toArray, List.set_cons_zero, List.set_cons_succ, i64_w, i32_w]
               rfl
             refine one_ (i := 1) (N := some 81) Fl68 rfl rfl (one_of HT_.out (by kernel_rfl)) (by decide) (fun K hK => ?_)
             refine goes_ Try.func17 (by kernel_rfl) rfl #[.agg #[.int .i64 t374, .int .i64 t375, .int .i64 t376, .int .i64 t377]] (by rfl) rfl rfl (by (try simp only [List.map_toArray, List.map_cons, List.map_nil]); first | done | rfl | (simp only [List.length_drop, List.length_take]; rfl)) ?_
             with_reducible refine (chequerlaw06_as.calls t374 t375 t376 t377 t403 t404 t405 t406 _ A79.out).mono ?_
             rintro e w99 ⟨rfl, hb⟩
             refine ⟨_, rfl, ?_⟩
             replace BK335 := Aside0.mk (blk_below (hp_ BK335.out) hb)
             replace BK397 := Aside0.mk (blk_below (hp_ BK397.out) hb)
             replace HB := Aside0.mk (below_step (by repeat (first | (with_reducible first | exact HB.out | apply below_alloc | apply pw_below_drewN | apply below_drew1 | refine below_set ?_ (IsS77.ge HI328.out) | refine below_set ?_ GE335.out | refine below_set ?_ GE397.out) | exact HB.out)) hb)
             replace HI328 := Aside0.mk (IsS77.below (by repeat (first | (with_reducible first | exact HI328.out | apply IsS77.alloc | apply IsS77.drewN | apply IsS77.drew | apply IsS77.set_0 | apply IsS77.set_1 | apply IsS77.set_2 | apply IsS77.set_3 | apply IsS77.set_4 | apply IsS77.set_5 | apply IsS77.set_6 | apply IsS77.set_7 | apply IsS77.set_8 | apply IsS77.set_9 | apply IsS77.set_10 | apply IsS77.set_11 | apply IsS77.set_12 | apply IsS77.set_13 | apply IsS77.set_14 | apply IsS77.set_15 | apply IsS77.set_16 | apply IsS77.set_17 | refine IsS77.far2 ?_ (by repeat (first | exact isTyR_of BK335.out | apply isTy_set | apply isTy_drewN | apply isTy_drew | apply isTy_alloc)) (by decide) | refine IsS77.far2 ?_ (by repeat (first | exact isTyR_of BK397.out | apply isTy_set | apply isTy_drewN | apply isTy_drew | apply isTy_alloc)) (by decide)) | exact HI328.out)) hb)
             (try clear hb)
             (try clear hb2)
             (try clear hk)
             (try clear hi)
             refine hK.out _ _ ⟨(blk_cell BK397.out 0).trans rfl, (blk_cell BK397.out 1).trans rfl, (blk_cell BK397.out 2).trans rfl, (blk_cell BK397.out 3).trans rfl, (blk_cell BK335.out 0).trans rfl, (blk_cell BK335.out 1).trans rfl, (blk_cell BK335.out 2).trans rfl, (blk_cell BK335.out 3).trans rfl⟩ (fun hHeld => ?_)
             clear hK K
             refine norm_ (a' := ?_) ?_ ?_
             rotate_left
             · show Act.put _ (some 81) _ = _
               simp only [Act.put, List.setIfInBounds_toArray, List.set_cons_zero, List.set_cons_succ, i64_w, i32_w]
               rfl
             refine pur_ (i := 3) (N := some 83) Fl69 (any_of HT_.out (by kernel_rfl)) ?_
             refine pur_ (i := 4) (N := some 84) Fl70 (any_of HT_.out (by kernel_rfl)) ?_
             refine pur_ (i := 5) (N := some 85) Fl71 (any_of HT_.out (by kernel_rfl)) ?_
             refine pur_ (i := 6) (N := some 86) Fl72 (any_of HT_.out (by kernel_rfl)) ?_
             refine pur_ (i := 7) (N := some 87) Fl73 (any_of HT_.out (by kernel_rfl)) ?_
             refine pur_ (i := 8) (N := some 88) Fl74 (any_of HT_.out (by kernel_rfl)) ?_
             refine pur_ (i := 9) (N := some 89) Fl75 (any_of HT_.out (by kernel_rfl)) ?_
             refine pun_ (i := 10) (N := some 90) Fl76 (any_of HT_.out (by kernel_rfl)) ?_
             refine pur_ (i := 11) (N := some 91) Fl77 (any_of HT_.out (by kernel_rfl)) ?_
             refine pur_ (i := 12) (N := some 8) Fl78 (any_of HT_.out (by kernel_rfl)) ?_
             refine done_ (done_of HT_.out (by kernel_rfl)) ?_
             try go_wp2
             go_ret
             exact ⟨by first | rfl | (simp [errW_none, errW_some] <;> rfl) | (simp [*, errW_none, errW_some] <;> rfl), by repeat (first | (with_reducible first | exact HB.out | apply below_alloc | apply pw_below_drewN | apply below_drew1 | refine below_set ?_ (IsS77.ge HI328.out) | refine below_set ?_ GE335.out | refine below_set ?_ GE397.out) | exact HB.out)⟩
         · rw [if_neg c80] at H
           have c80b0 : (t403 == t329 && (t404 == t330 && (t405 == t331 && (t406 == t332)))) = false := by simpa using c80
           (try (have c80b1 : decide (t403 = t329 && (t404 == t330 && (t405 == t331 && (t406 == t332)))) = false := by simpa using c80))
           (try (have c80b2 : (t403 == t329 && (t404 == t330 && (t405 == t331 && (t406 == t332)))) = false := by simpa using c80))
           (try (have c80b3 : ¬ (t403 = t329 && (t404 == t330 && (t405 == t331 && (t406 == t332)))) := by simpa using c80))
           clear c80
           obtain rfl := Option.some.inj H
           try go_wp2_with (first | ((with_reducible refine gate_callee (f := 21) rfl ?_); refine goQ_ (some 75) Try.func21 #[.pointer (some ⟨g328, 0, none⟩)] ?_; (with_reducible refine (head_Reader_Head.calls g328 x329000_2 x329001_2 x329002_2 x329003_2 x329004_2 x329005_2 x329006_2 x329007_2 x329008_2 x329009_2 x329010_2 x329011_2 x329012_2 x329013_2 x329014_2 x329015_2 x329016_2 x329017_2 t374 t375 t376 t377 t378 t379 t380 t381 t382 t383 t384 t385 t386 t387 t388 t389 t390 t391 t392 t393 t394 t395 t396 w _ ?side1 ?side2 A48.out).mono ?_); (case side1 => repeat (first | (with_reducible first | exact HI328.out | apply IsS77.alloc | apply IsS77.drewN | apply IsS77.drew | apply IsS77.set_0 | apply IsS77.set_1 | apply IsS77.set_2 | apply IsS77.set_3 | apply IsS77.set_4 | apply IsS77.set_5 | apply IsS77.set_6 | apply IsS77.set_7 | apply IsS77.set_8 | apply IsS77.set_9 | apply IsS77.set_10 | apply IsS77.set_11 | apply IsS77.set_12 | apply IsS77.set_13 | apply IsS77.set_14 | apply IsS77.set_15 | apply IsS77.set_16 | apply IsS77.set_17 | refine IsS77.far2 ?_ (by repeat (first | exact isTyR_of BK335.out | apply isTy_set | apply isTy_drewN | apply isTy_drew | apply isTy_alloc)) (by decide)) | exact HI328.out)); (case side2 => repeat (first | (with_reducible first | exact HB.out | apply below_alloc | apply pw_below_drewN | apply below_drew1 | refine below_set ?_ (IsS77.ge HI328.out) | refine below_set ?_ GE335.out) | exact HB.out)); rintro e w100 ⟨rfl, hi, hb, hk⟩; refine ⟨_, rfl, ?_⟩; replace BK335 := Aside0.mk (HdKeep.blk hk (g' := gb335) (o := .cells #[.int .i64 t329, .int .i64 t330, .int .i64 t331, .int .i64 t332] 25 (0, 0)) (hp_ BK335.out) NB335_328.out (by simp)); replace HB := Aside0.mk (hb); replace HI328 := Aside0.mk (hi); (try clear hb); (try clear hb2); (try clear hk); (try clear hi)) | ((with_reducible refine gate_dst (N := 15) rfl ?_); refine box_event ?hg (N := 15) ?hd (cs := #[.int .i64 0, .int .i64 0, .int .i64 0, .int .i64 0]) (t := 36) ?hr ?_; (case hd => rfl); (case hg => rfl); (case hr => first | (go_simp; done) | (go_simp; rfl)); intro gb397 hg w101 hbox hb; have BK397 := Aside0.mk (hbox); have GW397 := Aside0.mk ((by rw [hg]; exact (below_size (by repeat (first | (with_reducible first | exact HB.out | apply below_alloc | apply pw_below_drewN | apply below_drew1 | refine below_set ?_ (IsS77.ge HI328.out) | refine below_set ?_ GE335.out) | exact HB.out))) : w.heap.size ≤ gb397)); have GE397 := Aside0.mk ((by rw [hg]; exact (below_size (by repeat (first | (with_reducible first | exact HB.out | apply below_alloc | apply pw_below_drewN | apply below_drew1 | refine below_set ?_ (IsS77.ge HI328.out) | refine below_set ?_ GE335.out) | exact HB.out))) : w.heap.size ≤ gb397)); replace HB := Aside0.mk (below_step (by repeat (first | (with_reducible first | exact HB.out | apply below_alloc | apply pw_below_drewN | apply below_drew1 | refine below_set ?_ (IsS77.ge HI328.out) | refine below_set ?_ GE335.out) | exact HB.out)) hb); have NB335_397 := Aside0.mk ((nlt_ hg (hp_ BK335.out))); have NB397_335 := Aside0.mk ((ngt_ hg (hp_ BK335.out))); replace BK335 := Aside0.mk (blk_below (hp_ BK335.out) hb); have NB328_397 := Aside0.mk ((by rw [hg]; exact Nat.ne_of_lt (IsS77.lt (show IsS77 w _ g328 t379 t380 t381 t382 t383 t384 t385 t386 t387 t388 t389 t390 t391 t392 t393 t394 t395 t396 from by repeat (first | (with_reducible first | exact HI328.out | apply IsS77.alloc | apply IsS77.drewN | apply IsS77.drew | apply IsS77.set_0 | apply IsS77.set_1 | apply IsS77.set_2 | apply IsS77.set_3 | apply IsS77.set_4 | apply IsS77.set_5 | apply IsS77.set_6 | apply IsS77.set_7 | apply IsS77.set_8 | apply IsS77.set_9 | apply IsS77.set_10 | apply IsS77.set_11 | apply IsS77.set_12 | apply IsS77.set_13 | apply IsS77.set_14 | apply IsS77.set_15 | apply IsS77.set_16 | apply IsS77.set_17 | refine IsS77.far2 ?_ (by repeat (first | exact isTyR_of BK335.out | apply isTy_set | apply isTy_drewN | apply isTy_drew | apply isTy_alloc)) (by decide)) | exact HI328.out))) : g328 ≠ gb397)); have NB397_328 := Aside0.mk ((by rw [hg]; exact Nat.ne_of_gt (IsS77.lt (show IsS77 w _ g328 t379 t380 t381 t382 t383 t384 t385 t386 t387 t388 t389 t390 t391 t392 t393 t394 t395 t396 from by repeat (first | (with_reducible first | exact HI328.out | apply IsS77.alloc | apply IsS77.drewN | apply IsS77.drew | apply IsS77.set_0 | apply IsS77.set_1 | apply IsS77.set_2 | apply IsS77.set_3 | apply IsS77.set_4 | apply IsS77.set_5 | apply IsS77.set_6 | apply IsS77.set_7 | apply IsS77.set_8 | apply IsS77.set_9 | apply IsS77.set_10 | apply IsS77.set_11 | apply IsS77.set_12 | apply IsS77.set_13 | apply IsS77.set_14 | apply IsS77.set_15 | apply IsS77.set_16 | apply IsS77.set_17 | refine IsS77.far2 ?_ (by repeat (first | exact isTyR_of BK335.out | apply isTy_set | apply isTy_drewN | apply isTy_drew | apply isTy_alloc)) (by decide)) | exact HI328.out))) : gb397 ≠ g328)); replace HI328 := Aside0.mk (IsS77.below (by repeat (first | (with_reducible first | exact HI328.out | apply IsS77.alloc | apply IsS77.drewN | apply IsS77.drew | apply IsS77.set_0 | apply IsS77.set_1 | apply IsS77.set_2 | apply IsS77.set_3 | apply IsS77.set_4 | apply IsS77.set_5 | apply IsS77.set_6 | apply IsS77.set_7 | apply IsS77.set_8 | apply IsS77.set_9 | apply IsS77.set_10 | apply IsS77.set_11 | apply IsS77.set_12 | apply IsS77.set_13 | apply IsS77.set_14 | apply IsS77.set_15 | apply IsS77.set_16 | apply IsS77.set_17 | refine IsS77.far2 ?_ (by repeat (first | exact isTyR_of BK335.out | apply isTy_set | apply isTy_drewN | apply isTy_drew | apply isTy_alloc)) (by decide)) | exact HI328.out)) hb); clear hb hbox hg; have hnb102 := NB397_335.out; have hnc102 := NB335_397.out; have hnb103 := NB397_328.out; have hnc103 := NB328_397.out; have hcz104_0 : w101.cell? ⟨gb397, 0, none⟩ = some (.int .i64 0) := (blk_cell BK397.out 0).trans rfl; have hcz104_1 : w101.cell? ⟨gb397, 1, none⟩ = some (.int .i64 0) := (blk_cell BK397.out 1).trans rfl; have hcz104_2 : w101.cell? ⟨gb397, 2, none⟩ = some (.int .i64 0) := (blk_cell BK397.out 2).trans rfl; have hcz104_3 : w101.cell? ⟨gb397, 3, none⟩ = some (.int .i64 0) := (blk_cell BK397.out 3).trans rfl; have hfz104_0 := blk_frozen BK397.out 0; have hfz104_1 := blk_frozen BK397.out 1; have hfz104_2 := blk_frozen BK397.out 2; have hfz104_3 := blk_frozen BK397.out 3))
           have n0_ : Aside0 (((((w101.setCell ⟨gb397, 0, none⟩ (.int .i64 t374)).setCell ⟨gb397, 1, none⟩ (.int .i64 t375)).setCell ⟨gb397, 2, none⟩ (.int .i64 t376)).setCell ⟨gb397, 3, none⟩ (.int .i64 t377)).heap[gb335]? = some (.cells #[.int .i64 t329, .int .i64 t330, .int .i64 t331, .int .i64 t332] 25 (0, 0))) := ⟨hf_ BK335.out NB335_397.out⟩
           have n1_ : Aside0 (((((w101.setCell ⟨gb397, 0, none⟩ (.int .i64 t374)).setCell ⟨gb397, 1, none⟩ (.int .i64 t375)).setCell ⟨gb397, 2, none⟩ (.int .i64 t376)).setCell ⟨gb397, 3, none⟩ (.int .i64 t377)).heap[gb397]? = some (.cells #[.int .i64 t374, .int .i64 t375, .int .i64 t376, .int .i64 t377] 36 (0, 0))) := ⟨by (with_reducible repeat (first | refine blk_drewN ?_ _ | refine blk_drew ?_ | refine blk_alloc ?_ _)); refine blk_put (cs := #[.int .i64 t374, .int .i64 t375, .int .i64 t376, .int .i64 0]) ?_ 3 _ rfl; (with_reducible repeat (first | refine blk_drewN ?_ _ | refine blk_drew ?_ | refine blk_alloc ?_ _)); refine blk_put (cs := #[.int .i64 t374, .int .i64 t375, .int .i64 0, .int .i64 0]) ?_ 2 _ rfl; (with_reducible repeat (first | refine blk_drewN ?_ _ | refine blk_drew ?_ | refine blk_alloc ?_ _)); refine blk_put (cs := #[.int .i64 t374, .int .i64 0, .int .i64 0, .int .i64 0]) ?_ 1 _ rfl; (with_reducible repeat (first | refine blk_drewN ?_ _ | refine blk_drew ?_ | refine blk_alloc ?_ _)); refine blk_put (cs := #[.int .i64 0, .int .i64 0, .int .i64 0, .int .i64 0]) ?_ 0 _ rfl; (with_reducible repeat (first | refine blk_drewN ?_ _ | refine blk_drew ?_ | refine blk_alloc ?_ _)); exact BK397.out⟩
           have n2_ : Aside0 (IsS77 w ((((w101.setCell ⟨gb397, 0, none⟩ (.int .i64 t374)).setCell ⟨gb397, 1, none⟩ (.int .i64 t375)).setCell ⟨gb397, 2, none⟩ (.int .i64 t376)).setCell ⟨gb397, 3, none⟩ (.int .i64 t377)) g328 t379 t380 t381 t382 t383 t384 t385 t386 t387 t388 t389 t390 t391 t392 t393 t394 t395 t396) := ⟨by repeat (first | (with_reducible first | exact HI328.out | apply IsS77.alloc | apply IsS77.drewN | apply IsS77.drew | apply IsS77.set_0 | apply IsS77.set_1 | apply IsS77.set_2 | apply IsS77.set_3 | apply IsS77.set_4 | apply IsS77.set_5 | apply IsS77.set_6 | apply IsS77.set_7 | apply IsS77.set_8 | apply IsS77.set_9 | apply IsS77.set_10 | apply IsS77.set_11 | apply IsS77.set_12 | apply IsS77.set_13 | apply IsS77.set_14 | apply IsS77.set_15 | apply IsS77.set_16 | apply IsS77.set_17 | refine IsS77.far2 ?_ (by repeat (first | exact isTyR_of BK335.out | apply isTy_set | apply isTy_drewN | apply isTy_drew | apply isTy_alloc)) (by decide) | refine IsS77.far2 ?_ (by repeat (first | exact isTyR_of BK397.out | apply isTy_set | apply isTy_drewN | apply isTy_drew | apply isTy_alloc)) (by decide)) | exact HI328.out)⟩
           have n3_ : Aside0 (Below w.heap.size w ((((w101.setCell ⟨gb397, 0, none⟩ (.int .i64 t374)).setCell ⟨gb397, 1, none⟩ (.int .i64 t375)).setCell ⟨gb397, 2, none⟩ (.int .i64 t376)).setCell ⟨gb397, 3, none⟩ (.int .i64 t377))) := ⟨by repeat (first | (with_reducible first | exact HB.out | apply below_alloc | apply pw_below_drewN | apply below_drew1 | refine below_set ?_ (IsS77.ge HI328.out) | refine below_set ?_ GE335.out | refine below_set ?_ GE397.out) | exact HB.out)⟩
           (try clear BK335)
           (try clear BK397)
           (try clear HI328)
           (try clear HB)
           generalize ((((w101.setCell ⟨gb397, 0, none⟩ (.int .i64 t374)).setCell ⟨gb397, 1, none⟩ (.int .i64 t375)).setCell ⟨gb397, 2, none⟩ (.int .i64 t376)).setCell ⟨gb397, 3, none⟩ (.int .i64 t377)) = w105 at n0_ n1_ n2_ n3_ ⊢
           have BK335 := n0_
           have BK397 := n1_
           have HI328 := n2_
           have HB := n3_
           clear n0_ n1_ n2_ n3_
           replace BK335 := Aside0.mk (blk_drew BK335.out)
           replace BK397 := Aside0.mk (blk_drew BK397.out)
           replace HI328 := Aside0.mk (IsS77.drew HI328.out)
           replace HB := Aside0.mk (below_drew1 HB.out)
           refine start_ (n := 13) (S := fun w' => w'.cell? ⟨gb397, 0, none⟩ = some (.int .i64 t374) ∧ w'.cell? ⟨gb397, 1, none⟩ = some (.int .i64 t375) ∧ w'.cell? ⟨gb397, 2, none⟩ = some (.int .i64 t376) ∧ w'.cell? ⟨gb397, 3, none⟩ = some (.int .i64 t377) ∧ w'.cell? ⟨gb335, 0, none⟩ = some (.int .i64 t329) ∧ w'.cell? ⟨gb335, 1, none⟩ = some (.int .i64 t330) ∧ w'.cell? ⟨gb335, 2, none⟩ = some (.int .i64 t331) ∧ w'.cell? ⟨gb335, 3, none⟩ = some (.int .i64 t332)) (ds := []) Fl65 (by kernel_rfl) rfl rfl ⟨(blk_cell BK397.out 0).trans rfl, (blk_cell BK397.out 1).trans rfl, (blk_cell BK397.out 2).trans rfl, (blk_cell BK397.out 3).trans rfl, (blk_cell BK335.out 0).trans rfl, (blk_cell BK335.out 1).trans rfl, (blk_cell BK335.out 2).trans rfl, (blk_cell BK335.out 3).trans rfl⟩ (fun hHeld => ?_); refine with_tabW chequerlaw06_HeadReads.tab21 chequerlaw06_HeadReads.bits21 (fun HT_ HW_ => ?_)
           generalize w105.drew = w106 at BK335 BK397 HI328 HB hHeld ⊢
           refine take_ (i := 0) (N := some 80) (v := ?_) (a' := ?_) Fl66 rfl rfl (take_ofW HT_.out HW_.out (by kernel_rfl)) (fun _ _ _ h => h) (Or.inl ⟨by rfl, ?_⟩) hHeld ?_ ?_
           rotate_left
           · rintro w' ⟨s0, s1, s2, s3, s4, s5, s6, s7⟩
             go_simp
             with_reducible rfl
           rotate_left
           · simp only [Act.put, List.setIfInBounds_toArray, List.set_cons_zero, List.set_cons_succ, i64_w, i32_w]
             rfl
           refine take_ (i := 2) (N := some 82) (v := ?_) (a' := ?_) Fl67 rfl rfl (take_ofW HT_.out HW_.out (by kernel_rfl)) (fun _ _ _ h => h) (Or.inl ⟨by rfl, ?_⟩) hHeld ?_ ?_
           rotate_left
           · rintro w' ⟨s0, s1, s2, s3, s4, s5, s6, s7⟩
             go_simp
             with_reducible rfl
           rotate_left
           · simp only [Act.put, List.setIfInBounds_toArray, List.set_cons_zero, List.set_cons_succ, i64_w, i32_w]
             rfl
           refine one_ (i := 1) (N := some 81) Fl68 rfl rfl (one_of HT_.out (by kernel_rfl)) (by decide) (fun K hK => ?_)
           refine goes_ Try.func17 (by kernel_rfl) rfl #[.agg #[.int .i64 t374, .int .i64 t375, .int .i64 t376, .int .i64 t377]] (by rfl) rfl rfl (by (try simp only [List.map_toArray, List.map_cons, List.map_nil]); first | done | rfl | (simp only [List.length_drop, List.length_take]; rfl)) ?_
           with_reducible refine (chequerlaw06_as.calls t374 t375 t376 t377 t403 t404 t405 t406 _ A79.out).mono ?_
           rintro e w107 ⟨rfl, hb⟩
           refine ⟨_, rfl, ?_⟩
           replace BK335 := Aside0.mk (blk_below (hp_ BK335.out) hb)
           replace BK397 := Aside0.mk (blk_below (hp_ BK397.out) hb)
           replace HB := Aside0.mk (below_step (by repeat (first | (with_reducible first | exact HB.out | apply below_alloc | apply pw_below_drewN | apply below_drew1 | refine below_set ?_ (IsS77.ge HI328.out) | refine below_set ?_ GE335.out | refine below_set ?_ GE397.out) | exact HB.out)) hb)
           replace HI328 := Aside0.mk (IsS77.below (by repeat (first | (with_reducible first | exact HI328.out | apply IsS77.alloc | apply IsS77.drewN | apply IsS77.drew | apply IsS77.set_0 | apply IsS77.set_1 | apply IsS77.set_2 | apply IsS77.set_3 | apply IsS77.set_4 | apply IsS77.set_5 | apply IsS77.set_6 | apply IsS77.set_7 | apply IsS77.set_8 | apply IsS77.set_9 | apply IsS77.set_10 | apply IsS77.set_11 | apply IsS77.set_12 | apply IsS77.set_13 | apply IsS77.set_14 | apply IsS77.set_15 | apply IsS77.set_16 | apply IsS77.set_17 | refine IsS77.far2 ?_ (by repeat (first | exact isTyR_of BK335.out | apply isTy_set | apply isTy_drewN | apply isTy_drew | apply isTy_alloc)) (by decide) | refine IsS77.far2 ?_ (by repeat (first | exact isTyR_of BK397.out | apply isTy_set | apply isTy_drewN | apply isTy_drew | apply isTy_alloc)) (by decide)) | exact HI328.out)) hb)
           (try clear hb)
           (try clear hb2)
           (try clear hk)
           (try clear hi)
           refine hK.out _ _ ⟨(blk_cell BK397.out 0).trans rfl, (blk_cell BK397.out 1).trans rfl, (blk_cell BK397.out 2).trans rfl, (blk_cell BK397.out 3).trans rfl, (blk_cell BK335.out 0).trans rfl, (blk_cell BK335.out 1).trans rfl, (blk_cell BK335.out 2).trans rfl, (blk_cell BK335.out 3).trans rfl⟩ (fun hHeld => ?_)
           clear hK K
           refine norm_ (a' := ?_) ?_ ?_
           rotate_left
           · show Act.put _ (some 81) _ = _
             simp only [Act.put, List.setIfInBounds_toArray, List.set_cons_zero, List.set_cons_succ, i64_w, i32_w]
             rfl
           refine pur_ (i := 3) (N := some 83) Fl69 (any_of HT_.out (by kernel_rfl)) ?_
           refine pur_ (i := 4) (N := some 84) Fl70 (any_of HT_.out (by kernel_rfl)) ?_
           refine pun_ (i := 5) (N := some 85) Fl71 (any_of HT_.out (by kernel_rfl)) ?_
           refine pun_ (i := 6) (N := some 86) Fl72 (any_of HT_.out (by kernel_rfl)) ?_
           refine pun_ (i := 7) (N := some 87) Fl73 (any_of HT_.out (by kernel_rfl)) ?_
           refine pur_ (i := 8) (N := some 88) Fl74 (any_of HT_.out (by kernel_rfl)) ?_
           refine pur_ (i := 9) (N := some 89) Fl75 (any_of HT_.out (by kernel_rfl)) ?_
           refine pun_ (i := 10) (N := some 90) Fl76 (any_of HT_.out (by kernel_rfl)) ?_
           refine pur_ (i := 11) (N := some 91) Fl77 (any_of HT_.out (by kernel_rfl)) ?_
           refine pur_ (i := 12) (N := some 8) Fl78 (any_of HT_.out (by kernel_rfl)) ?_
           refine done_ (done_of HT_.out (by kernel_rfl)) ?_
           try go_wp2
           go_ret
           exact ⟨by first | rfl | (simp [errW_none, errW_some] <;> rfl) | (simp [*, errW_none, errW_some] <;> rfl), by repeat (first | (with_reducible first | exact HB.out | apply below_alloc | apply pw_below_drewN | apply below_drew1 | refine below_set ?_ (IsS77.ge HI328.out) | refine below_set ?_ GE335.out | refine below_set ?_ GE397.out) | exact HB.out)⟩

/-- THE ONE PURE STATEMENT of chequerlaw06_HeadReads. -/
def chequerlaw06_HeadReads.Pure : Prop := ∀ (a0 : ByteArray) (a1_0 : Int) (a1_1 : Int) (a1_2 : Int) (a2 : Int) (a3 : Bool), a0.size ≤ 140737488351232 → (Lit.int .i64 a1_0).wf = true → (Lit.int .i64 a1_1).wf = true → (Lit.int .i64 a1_2).wf = true → (Lit.int .i64 a2).wf = true → ∃ k, chequerlaw06_HeadReads.f k a0 a1_0 a1_1 a1_2 a2 a3 = some true
theorem chequerlaw06_HeadReads.walk (P : chequerlaw06_HeadReads.Pure) (a0 : ByteArray) (a1_0 : Int) (a1_1 : Int) (a1_2 : Int) (a2 : Int) (a3 : Bool) (w : World) (w0 : a0.size ≤ 140737488351232) (w1_0 : (Lit.int .i64 a1_0).wf = true) (w1_1 : (Lit.int .i64 a1_1).wf = true) (w1_2 : (Lit.int .i64 a1_2).wf = true) (w2 : (Lit.int .i64 a2).wf = true) :
 Calls Try.prog 4 #[.string a0, .agg #[.int .i64 a1_0, .int .i64 a1_1, .int .i64 a1_2], .int .i64 a2, .bool a3] w fun e w' => e = .returned (.bool true) ∧ Below w.heap.size w w' := by
 obtain ⟨k, h⟩ := P a0 a1_0 a1_1 a1_2 a2 a3 w0 w1_0 w1_1 w1_2 w2
 refine (chequerlaw06_HeadReads.calls k a0 a1_0 a1_1 a1_2 a2 a3 true w h).mono ?_
 rintro e w' ⟨rfl, hd⟩
 exact ⟨rfl, hd⟩

end Go.Proofs.Ytmimfljiighbaaa.Q
