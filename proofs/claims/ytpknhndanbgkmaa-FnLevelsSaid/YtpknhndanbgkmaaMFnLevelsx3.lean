-- Written by this session's own program (wip/gen/myprint.py).
import Derived.Test.YtpknhndanbgkmaaMFnLevelsx0
import Derived.Test.YtpknhndanbgkmaaMFnLevelsx1
namespace Go.Proofs.Ytpknhndanbgkmaa.MFnLevels
open Go.RowKit Go.Proofs.YtpknhndanbgkmaaW.PrintWords Go.Proofs.YtpknhndanbgkmaaW.PrintLast Go.Proofs.YtpknhndanbgkmaaW.PrintMore
attribute [local go_sem] max2_int min2_int max_two min_two max_three min_three max_four min_four   -- for this text's walks alone
set_option linter.unusedVariables false
set_option linter.unusedSimpArgs false
mutual
def spec_DirClass.j0 : Nat → Int → Bool → Option (Int)
 | 0, _, _ => none
 | k + 1, x0, x9 => if x9 = true then (some 9) else ((spec_l12In.f x0 768 879).bind fun t126 => (if t126 = true then (spec_DirClass.j1 k x0 true) else ((spec_l12In.f x0 1425 1469).bind fun t127 => (spec_DirClass.j1 k x0 t127))))
def spec_DirClass.j1 : Nat → Int → Bool → Option (Int)
 | 0, _, _ => none
 | k + 1, x0, x20 => if x20 = true then (some 8) else (if x0 = 8206 then (some 0) else (if x0 = 8207 then (spec_DirClass.j2 k x0 true) else ((spec_l12In.f x0 1424 1535).bind fun t128 => (if t128 = true then (spec_DirClass.j2 k x0 true) else ((spec_l12In.f x0 1984 2143).bind fun t129 => (spec_DirClass.j2 k x0 t129))))))
def spec_DirClass.j2 : Nat → Int → Bool → Option (Int)
 | 0, _, _ => none
 | k + 1, x0, x30 => if x30 = true then (some 1) else ((spec_l12In.f x0 1632 1641).bind fun t130 => (if t130 = true then (some 4) else ((spec_l12In.f x0 1536 1983).bind fun t131 => (if t131 = true then (some 2) else ((spec_l12In.f x0 48 57).bind fun t132 => (if t132 = true then (some 3) else (if x0 = 43 then (spec_DirClass.j3 k x0 true) else (spec_DirClass.j3 k x0 (x0 == 45)))))))))
def spec_DirClass.j3 : Nat → Int → Bool → Option (Int)
 | 0, _, _ => none
 | k + 1, x0, x50 => if x50 = true then (some 5) else ((spec_l12In.f x0 35 37).bind fun t133 => (if t133 = true then (spec_DirClass.j4 k x0 true) else ((spec_l12In.f x0 162 165).bind fun t134 => (if t134 = true then (spec_DirClass.j4 k x0 true) else (spec_DirClass.j4 k x0 (x0 == 8364))))))
def spec_DirClass.j4 : Nat → Int → Bool → Option (Int)
 | 0, _, _ => none
 | k + 1, x0, x57 => if x57 = true then (some 6) else (if x0 = 44 then (spec_DirClass.j5 k x0 true) else (if x0 = 46 then (spec_DirClass.j5 k x0 true) else (if x0 = 47 then (spec_DirClass.j5 k x0 true) else (if x0 = 58 then (spec_DirClass.j5 k x0 true) else (spec_DirClass.j5 k x0 (x0 == 160))))))
def spec_DirClass.j5 : Nat → Int → Bool → Option (Int)
 | 0, _, _ => none
 | k + 1, x0, x68 => if x68 = true then (some 7) else (if x0 = 33 then (spec_DirClass.j6 k x0 true) else (if x0 = 34 then (spec_DirClass.j6 k x0 true) else ((spec_l12In.f x0 38 42).bind fun t135 => (if t135 = true then (spec_DirClass.j6 k x0 true) else ((spec_l12In.f x0 59 64).bind fun t136 => (if t136 = true then (spec_DirClass.j6 k x0 true) else ((spec_l12In.f x0 91 96).bind fun t137 => (if t137 = true then (spec_DirClass.j6 k x0 true) else ((spec_l12In.f x0 123 126).bind fun t138 => (spec_DirClass.j6 k x0 t138))))))))))
def spec_DirClass.j6 : Nat → Int → Bool → Option (Int)
 | 0, _, _ => none
 | k + 1, x0, x87 => if x87 = true then (some 12) else (if x0 = 161 then (some 12) else ((spec_l12In.f x0 166 169).bind fun t139 => (if t139 = true then (some 12) else ((spec_l12In.f x0 171 177).bind fun t140 => (if t140 = true then (some 12) else ((spec_l12In.f x0 8208 8231).bind fun t141 => (if t141 = true then (some 12) else (if x0 = 8203 then (some 12) else (some 0)))))))))
end
def spec_DirClass.f (k : Nat) (a0 : Int) : Option (Int) := if a0 = 10 then (some 11) else (if a0 = 9 then (some 10) else (if a0 = 32 then (spec_DirClass.j0 k a0 true) else (if a0 = 12 then (spec_DirClass.j0 k a0 true) else ((spec_l12In.f a0 8192 8202).bind fun t125 => (spec_DirClass.j0 k a0 t125)))))
theorem spec_DirClass.mono_l : ∀ k, (∀ y0 y1, LeO (spec_DirClass.j0 k y0 y1) (spec_DirClass.j0 (k + 1) y0 y1)) ∧ (∀ y0 y1, LeO (spec_DirClass.j1 k y0 y1) (spec_DirClass.j1 (k + 1) y0 y1)) ∧ (∀ y0 y1, LeO (spec_DirClass.j2 k y0 y1) (spec_DirClass.j2 (k + 1) y0 y1)) ∧ (∀ y0 y1, LeO (spec_DirClass.j3 k y0 y1) (spec_DirClass.j3 (k + 1) y0 y1)) ∧ (∀ y0 y1, LeO (spec_DirClass.j4 k y0 y1) (spec_DirClass.j4 (k + 1) y0 y1)) ∧ (∀ y0 y1, LeO (spec_DirClass.j5 k y0 y1) (spec_DirClass.j5 (k + 1) y0 y1)) ∧ (∀ y0 y1, LeO (spec_DirClass.j6 k y0 y1) (spec_DirClass.j6 (k + 1) y0 y1))
 | 0 => ⟨fun _ _ r h => by simp [spec_DirClass.j0] at h, fun _ _ r h => by simp [spec_DirClass.j1] at h, fun _ _ r h => by simp [spec_DirClass.j2] at h, fun _ _ r h => by simp [spec_DirClass.j3] at h, fun _ _ r h => by simp [spec_DirClass.j4] at h, fun _ _ r h => by simp [spec_DirClass.j5] at h, fun _ _ r h => by simp [spec_DirClass.j6] at h⟩
 | k + 1 => by
  obtain ⟨ih0, ih1, ih2, ih3, ih4, ih5, ih6⟩ := spec_DirClass.mono_l k
  refine ⟨?_, ?_, ?_, ?_, ?_, ?_, ?_⟩
  · intro y0 y1
    unfold spec_DirClass.j0
    repeat' first
    | (with_reducible exact ih0 _ _)
    | (with_reducible exact ih1 _ _)
    | (with_reducible exact ih2 _ _)
    | (with_reducible exact ih3 _ _)
    | (with_reducible exact ih4 _ _)
    | (with_reducible exact ih5 _ _)
    | (with_reducible exact ih6 _ _)
    | (with_reducible exact LeO.refl _)
    | (with_reducible exact LeO.none _)
    | (with_reducible refine LeO.ite ?_ ?_)
    | (with_reducible refine LeO.bind ?_ (fun _ => ?_))
    | exact ih0 _ _
    | exact ih1 _ _
    | exact ih2 _ _
    | exact ih3 _ _
    | exact ih4 _ _
    | exact ih5 _ _
    | exact ih6 _ _
    | exact LeO.none _
    | refine LeO.ite ?_ ?_
    | refine LeO.bind ?_ (fun _ => ?_)
  · intro y0 y1
    unfold spec_DirClass.j1
    repeat' first
    | (with_reducible exact ih0 _ _)
    | (with_reducible exact ih1 _ _)
    | (with_reducible exact ih2 _ _)
    | (with_reducible exact ih3 _ _)
    | (with_reducible exact ih4 _ _)
    | (with_reducible exact ih5 _ _)
    | (with_reducible exact ih6 _ _)
    | (with_reducible exact LeO.refl _)
    | (with_reducible exact LeO.none _)
    | (with_reducible refine LeO.ite ?_ ?_)
    | (with_reducible refine LeO.bind ?_ (fun _ => ?_))
    | exact ih0 _ _
    | exact ih1 _ _
    | exact ih2 _ _
    | exact ih3 _ _
    | exact ih4 _ _
    | exact ih5 _ _
    | exact ih6 _ _
    | exact LeO.none _
    | refine LeO.ite ?_ ?_
    | refine LeO.bind ?_ (fun _ => ?_)
  · intro y0 y1
    unfold spec_DirClass.j2
    repeat' first
    | (with_reducible exact ih0 _ _)
    | (with_reducible exact ih1 _ _)
    | (with_reducible exact ih2 _ _)
    | (with_reducible exact ih3 _ _)
    | (with_reducible exact ih4 _ _)
    | (with_reducible exact ih5 _ _)
    | (with_reducible exact ih6 _ _)
    | (with_reducible exact LeO.refl _)
    | (with_reducible exact LeO.none _)
    | (with_reducible refine LeO.ite ?_ ?_)
    | (with_reducible refine LeO.bind ?_ (fun _ => ?_))
    | exact ih0 _ _
    | exact ih1 _ _
    | exact ih2 _ _
    | exact ih3 _ _
    | exact ih4 _ _
    | exact ih5 _ _
    | exact ih6 _ _
    | exact LeO.none _
    | refine LeO.ite ?_ ?_
    | refine LeO.bind ?_ (fun _ => ?_)
  · intro y0 y1
    unfold spec_DirClass.j3
    repeat' first
    | (with_reducible exact ih0 _ _)
    | (with_reducible exact ih1 _ _)
    | (with_reducible exact ih2 _ _)
    | (with_reducible exact ih3 _ _)
    | (with_reducible exact ih4 _ _)
    | (with_reducible exact ih5 _ _)
    | (with_reducible exact ih6 _ _)
    | (with_reducible exact LeO.refl _)
    | (with_reducible exact LeO.none _)
    | (with_reducible refine LeO.ite ?_ ?_)
    | (with_reducible refine LeO.bind ?_ (fun _ => ?_))
    | exact ih0 _ _
    | exact ih1 _ _
    | exact ih2 _ _
    | exact ih3 _ _
    | exact ih4 _ _
    | exact ih5 _ _
    | exact ih6 _ _
    | exact LeO.none _
    | refine LeO.ite ?_ ?_
    | refine LeO.bind ?_ (fun _ => ?_)
  · intro y0 y1
    unfold spec_DirClass.j4
    repeat' first
    | (with_reducible exact ih0 _ _)
    | (with_reducible exact ih1 _ _)
    | (with_reducible exact ih2 _ _)
    | (with_reducible exact ih3 _ _)
    | (with_reducible exact ih4 _ _)
    | (with_reducible exact ih5 _ _)
    | (with_reducible exact ih6 _ _)
    | (with_reducible exact LeO.refl _)
    | (with_reducible exact LeO.none _)
    | (with_reducible refine LeO.ite ?_ ?_)
    | (with_reducible refine LeO.bind ?_ (fun _ => ?_))
    | exact ih0 _ _
    | exact ih1 _ _
    | exact ih2 _ _
    | exact ih3 _ _
    | exact ih4 _ _
    | exact ih5 _ _
    | exact ih6 _ _
    | exact LeO.none _
    | refine LeO.ite ?_ ?_
    | refine LeO.bind ?_ (fun _ => ?_)
  · intro y0 y1
    unfold spec_DirClass.j5
    repeat' first
    | (with_reducible exact ih0 _ _)
    | (with_reducible exact ih1 _ _)
    | (with_reducible exact ih2 _ _)
    | (with_reducible exact ih3 _ _)
    | (with_reducible exact ih4 _ _)
    | (with_reducible exact ih5 _ _)
    | (with_reducible exact ih6 _ _)
    | (with_reducible exact LeO.refl _)
    | (with_reducible exact LeO.none _)
    | (with_reducible refine LeO.ite ?_ ?_)
    | (with_reducible refine LeO.bind ?_ (fun _ => ?_))
    | exact ih0 _ _
    | exact ih1 _ _
    | exact ih2 _ _
    | exact ih3 _ _
    | exact ih4 _ _
    | exact ih5 _ _
    | exact ih6 _ _
    | exact LeO.none _
    | refine LeO.ite ?_ ?_
    | refine LeO.bind ?_ (fun _ => ?_)
  · intro y0 y1
    unfold spec_DirClass.j6
    repeat' first
    | (with_reducible exact ih0 _ _)
    | (with_reducible exact ih1 _ _)
    | (with_reducible exact ih2 _ _)
    | (with_reducible exact ih3 _ _)
    | (with_reducible exact ih4 _ _)
    | (with_reducible exact ih5 _ _)
    | (with_reducible exact ih6 _ _)
    | (with_reducible exact LeO.refl _)
    | (with_reducible exact LeO.none _)
    | (with_reducible refine LeO.ite ?_ ?_)
    | (with_reducible refine LeO.bind ?_ (fun _ => ?_))
    | exact ih0 _ _
    | exact ih1 _ _
    | exact ih2 _ _
    | exact ih3 _ _
    | exact ih4 _ _
    | exact ih5 _ _
    | exact ih6 _ _
    | exact LeO.none _
    | refine LeO.ite ?_ ?_
    | refine LeO.bind ?_ (fun _ => ?_)
theorem spec_DirClass.mono : ∀ a0 k, LeO (spec_DirClass.f k a0) (spec_DirClass.f (k + 1) a0) := by
 intro a0 k
 obtain ⟨ih0, ih1, ih2, ih3, ih4, ih5, ih6⟩ := spec_DirClass.mono_l k
 unfold spec_DirClass.f
 repeat' first
  | (with_reducible exact ih0 _ _)
  | (with_reducible exact ih1 _ _)
  | (with_reducible exact ih2 _ _)
  | (with_reducible exact ih3 _ _)
  | (with_reducible exact ih4 _ _)
  | (with_reducible exact ih5 _ _)
  | (with_reducible exact ih6 _ _)
  | (with_reducible exact LeO.refl _)
  | (with_reducible exact LeO.none _)
  | (with_reducible refine LeO.ite ?_ ?_)
  | (with_reducible refine LeO.bind ?_ (fun _ => ?_))
  | exact ih0 _ _
  | exact ih1 _ _
  | exact ih2 _ _
  | exact ih3 _ _
  | exact ih4 _ _
  | exact ih5 _ _
  | exact ih6 _ _
  | exact LeO.none _
  | refine LeO.ite ?_ ?_
  | refine LeO.bind ?_ (fun _ => ?_)
set_option maxHeartbeats 8000000 in
set_option maxRecDepth 100000 in
theorem spec_DirClass.calls (k : Nat) (a0 : Int) (r : Int) (w : World) (h : spec_DirClass.f k a0 = some r) :
 Calls Try.prog 44 #[.int .i64 a0] w fun e w' => e = .returned (.int .i64 r) ∧ Drawn0 w w' := by
 have H : (if a0 = 10 then (some 11) else (if a0 = 9 then (some 10) else (if a0 = 32 then (spec_DirClass.j0 k a0 true) else (if a0 = 12 then (spec_DirClass.j0 k a0 true) else ((spec_l12In.f a0 8192 8202).bind fun t125 => (spec_DirClass.j0 k a0 t125)))))) = some r := h
 clear h
 by_cases c2 : a0 = 10
 · rw [if_pos c2] at H
   have c2b0 : (a0 == 10) = true := beq_iff_eq.mpr c2
   have c2b1 : (a0 != 10) = false := bne_eq_false_iff_eq.mpr c2
   clear c2
   obtain rfl := Option.some.inj H
   go_enter Try.func44, Try.ntmps44
   go_wp2
   go_ret
   exact ⟨by first | rfl | (simp; done) | (simp [*]; done), by repeat (first | exact Drawn0.refl _ | apply Drawn0.step)⟩
 · rw [if_neg c2] at H
   have c2b0 : (a0 == 10) = false := beq_eq_false_iff_ne.mpr c2
   have c2b1 : (a0 != 10) = true := bne_iff_ne.mpr c2
   by_cases c3 : a0 = 9
   · rw [if_pos c3] at H
     have c3b0 : (a0 == 9) = true := beq_iff_eq.mpr c3
     have c3b1 : (a0 != 9) = false := bne_eq_false_iff_eq.mpr c3
     clear c3
     obtain rfl := Option.some.inj H
     go_enter Try.func44, Try.ntmps44
     go_wp2
     go_ret
     exact ⟨by first | rfl | (simp; done) | (simp [*]; done), by repeat (first | exact Drawn0.refl _ | apply Drawn0.step)⟩
   · rw [if_neg c3] at H
     have c3b0 : (a0 == 9) = false := beq_eq_false_iff_ne.mpr c3
     have c3b1 : (a0 != 9) = true := bne_iff_ne.mpr c3
     have HC4 := aMk H
     clear H
     go_enter Try.func44, Try.ntmps44
     go_upto_region 5 with (fail)
     go_cut [9] (fun v9 wc => ∃ (kq : Nat) (x9_3 : Bool), v9 = .bool x9_3 ∧ Aside0 (spec_DirClass.j0 kq a0 x9_3 = some r) ∧ Aside0 (kq ≤ k) ∧ Drawn0 w wc)
     case first =>
      have H := HC4.out
      clear HC4
      by_cases c5 : a0 = 32
      · rw [if_pos c5] at H
        have c5b0 : (a0 == 32) = true := beq_iff_eq.mpr c5
        have c5b1 : (a0 != 32) = false := bne_eq_false_iff_eq.mpr c5
        clear c5
        (first | rw [c5b0] | (simp only [i64_w, i32_w]; rw [c5b0]) | skip)
        have H' := aMk H
        clear H
        go_wp2
        go_meet
        case rel => exact ⟨_, (true), (by first | rfl | (simp; done) | (simp [*]; done)), H', ⟨by first | omega | exact Nat.le_refl _⟩, by repeat (first | exact Drawn0.refl _ | apply Drawn0.step)⟩
      · rw [if_neg c5] at H
        have c5b0 : (a0 == 32) = false := beq_eq_false_iff_ne.mpr c5
        have c5b1 : (a0 != 32) = true := bne_iff_ne.mpr c5
        (first | rw [c5b0] | (simp only [i64_w, i32_w]; rw [c5b0]) | skip)
        by_cases c6 : a0 = 12
        · rw [if_pos c6] at H
          have c6b0 : (a0 == 12) = true := beq_iff_eq.mpr c6
          have c6b1 : (a0 != 12) = false := bne_eq_false_iff_eq.mpr c6
          clear c6
          have H' := aMk H
          clear H
          go_wp2
          go_meet
          case rel => exact ⟨_, (true), (by first | rfl | (simp; done) | (simp [*]; done)), H', ⟨by first | omega | exact Nat.le_refl _⟩, by repeat (first | exact Drawn0.refl _ | apply Drawn0.step)⟩
        · rw [if_neg c6] at H
          have c6b0 : (a0 == 12) = false := beq_eq_false_iff_ne.mpr c6
          have c6b1 : (a0 != 12) = true := bne_iff_ne.mpr c6
          replace H := oBm H
          obtain ⟨t125, A70, H⟩ := H
          replace H : (spec_DirClass.j0 k a0 t125) = some r := H
          have A7 := aMk A70
          clear A70
          have H' := aMk H
          clear H
          go_wp2_with (first | (go_at_call 54; (with_reducible refine (spec_l12In.calls a0 8192 8202 t125 _ A7.out).mono ?_); rintro e w' ⟨rfl, ⟨nd, rfl⟩⟩))
          go_meet
          case rel => exact ⟨_, (t125), (by first | rfl | (simp; done) | (simp [*]; done)), H', ⟨by first | omega | exact Nat.le_refl _⟩, by repeat (first | exact Drawn0.refl _ | apply Drawn0.step)⟩
     case rest =>
      clear HC4
      (try clear c2); (try clear c2b0); (try clear c2b1); (try clear p2); (try clear c3); (try clear c3b0); (try clear c3b1); (try clear c4); (try clear c5); (try clear c5b0); (try clear c5b1); (try clear c6); (try clear c6b0); (try clear c6b1)
      obtain ⟨kq, x9_3, rfl, HA, HJ3, ⟨mc3, rfl⟩⟩ := hcut
      cases kq with
      | zero => exact absurd HA.out (by simp [spec_DirClass.j0])
      | succ kj3 =>
       have H := HA.out
       clear HA
       simp only [spec_DirClass.j0] at H
       by_cases c8 : x9_3 = true
       · subst c8
         have H1 : (some 9) = some r := by rw [if_pos rfl] at H; exact H
         clear H
         have H := H1
         clear H1
         obtain rfl := Option.some.inj H
         go_wp2
         go_ret
         exact ⟨by first | rfl | (simp; done) | (simp [*]; done), by repeat (first | exact Drawn0.refl _ | apply Drawn0.step)⟩
       · replace c8 := Bool.eq_false_iff.mpr c8
         subst c8
         have H1 : ((spec_l12In.f a0 768 879).bind fun t126 => (if t126 = true then (spec_DirClass.j1 kj3 a0 true) else ((spec_l12In.f a0 1425 1469).bind fun t127 => (spec_DirClass.j1 kj3 a0 t127)))) = some r := by rw [if_neg (show ¬ (false = true) by decide)] at H; exact H
         clear H
         have H := H1
         clear H1
         have HC9 := aMk H
         clear H
         go_upto_region 7 with (fail)
         go_cut [20] (fun v20 wc => ∃ (kq : Nat) (x20_8 : Bool), v20 = .bool x20_8 ∧ Aside0 (spec_DirClass.j1 kq a0 x20_8 = some r) ∧ Aside0 (kq ≤ kj3) ∧ Drawn0 w wc)
         case first =>
          have H := HC9.out
          clear HC9
          replace H := oBm H
          obtain ⟨t126, A100, H⟩ := H
          replace H : (if t126 = true then (spec_DirClass.j1 kj3 a0 true) else ((spec_l12In.f a0 1425 1469).bind fun t127 => (spec_DirClass.j1 kj3 a0 t127))) = some r := H
          have A10 := aMk A100
          clear A100
          by_cases c11 : t126 = true
          · subst c11
            have H1 : (spec_DirClass.j1 kj3 a0 true) = some r := by rw [if_pos rfl] at H; exact H
            clear H
            have H := H1
            clear H1
            have H' := aMk H
            clear H
            go_wp2_with (first | ((with_reducible refine gate_callee (f := 54) rfl ?_); refine goesL_ (some 22) rfl rfl Try.func54 (by kernel_rfl) rfl #[.int .i64 a0, .int .i64 768, .int .i64 879] rfl (by (try simp only [List.map_toArray, List.map_cons, List.map_nil]); first | done | rfl | (simp only [List.length_drop, List.length_take]; rfl)) ?_; (with_reducible refine (spec_l12In.calls a0 768 879 true _ A10.out).mono ?_); rintro e w' ⟨rfl, ⟨nd, rfl⟩⟩; refine ⟨_, rfl, ?_⟩))
            go_meet
            case rel => exact ⟨_, (true), (by first | rfl | (simp; done) | (simp [*]; done)), H', ⟨by have := HJ3.out; first | omega | exact Nat.le_refl _⟩, by repeat (first | exact Drawn0.refl _ | apply Drawn0.step)⟩
          · replace c11 := Bool.eq_false_iff.mpr c11
            subst c11
            have H1 : ((spec_l12In.f a0 1425 1469).bind fun t127 => (spec_DirClass.j1 kj3 a0 t127)) = some r := by rw [if_neg (show ¬ (false = true) by decide)] at H; exact H
            clear H
            have H := H1
            clear H1
            replace H := oBm H
            obtain ⟨t127, A120, H⟩ := H
            replace H : (spec_DirClass.j1 kj3 a0 t127) = some r := H
            have A12 := aMk A120
            clear A120
            have H' := aMk H
            clear H
            go_wp2_with (first | ((with_reducible refine gate_callee (f := 54) rfl ?_); refine goesL_ (some 22) rfl rfl Try.func54 (by kernel_rfl) rfl #[.int .i64 a0, .int .i64 768, .int .i64 879] rfl (by (try simp only [List.map_toArray, List.map_cons, List.map_nil]); first | done | rfl | (simp only [List.length_drop, List.length_take]; rfl)) ?_; (with_reducible refine (spec_l12In.calls a0 768 879 false _ A10.out).mono ?_); rintro e w' ⟨rfl, ⟨nd, rfl⟩⟩; refine ⟨_, rfl, ?_⟩) | (go_at_call 54; (with_reducible refine (spec_l12In.calls a0 1425 1469 t127 _ A12.out).mono ?_); rintro e w' ⟨rfl, ⟨nd, rfl⟩⟩))
            go_meet
            case rel => exact ⟨_, (t127), (by first | rfl | (simp; done) | (simp [*]; done)), H', ⟨by have := HJ3.out; first | omega | exact Nat.le_refl _⟩, by repeat (first | exact Drawn0.refl _ | apply Drawn0.step)⟩
         case rest =>
          clear HC9
          (try clear c1); (try clear c2); (try clear c2b0); (try clear c2b1); (try clear p2); (try clear c3); (try clear c3b0); (try clear c3b1); (try clear c4); (try clear c5); (try clear c5b0); (try clear c5b1); (try clear c6); (try clear c6b0); (try clear c6b1); (try clear c8); (try clear c11); (try clear p2)
          obtain ⟨kq, x20_8, rfl, HA, HJ8, ⟨mc8, rfl⟩⟩ := hcut
          cases kq with
          | zero => exact absurd HA.out (by simp [spec_DirClass.j1])
          | succ kj8 =>
           have H := HA.out
           clear HA
           simp only [spec_DirClass.j1] at H
           by_cases c13 : x20_8 = true
           · subst c13
             have H1 : (some 8) = some r := by rw [if_pos rfl] at H; exact H
             clear H
             have H := H1
             clear H1
             obtain rfl := Option.some.inj H
             go_wp2
             go_ret
             exact ⟨by first | rfl | (simp; done) | (simp [*]; done), by repeat (first | exact Drawn0.refl _ | apply Drawn0.step)⟩
           · replace c13 := Bool.eq_false_iff.mpr c13
             subst c13
             have H1 : (if a0 = 8206 then (some 0) else (if a0 = 8207 then (spec_DirClass.j2 kj8 a0 true) else ((spec_l12In.f a0 1424 1535).bind fun t128 => (if t128 = true then (spec_DirClass.j2 kj8 a0 true) else ((spec_l12In.f a0 1984 2143).bind fun t129 => (spec_DirClass.j2 kj8 a0 t129)))))) = some r := by rw [if_neg (show ¬ (false = true) by decide)] at H; exact H
             clear H
             have H := H1
             clear H1
             by_cases c14 : a0 = 8206
             · rw [if_pos c14] at H
               have c14b0 : (a0 == 8206) = true := beq_iff_eq.mpr c14
               have c14b1 : (a0 != 8206) = false := bne_eq_false_iff_eq.mpr c14
               clear c14
               obtain rfl := Option.some.inj H
               go_wp2
               go_ret
               exact ⟨by first | rfl | (simp; done) | (simp [*]; done), by repeat (first | exact Drawn0.refl _ | apply Drawn0.step)⟩
             · rw [if_neg c14] at H
               have c14b0 : (a0 == 8206) = false := beq_eq_false_iff_ne.mpr c14
               have c14b1 : (a0 != 8206) = true := bne_iff_ne.mpr c14
               have HC15 := aMk H
               clear H
               go_upto_region 11 with (fail)
               go_cut [30] (fun v30 wc => ∃ (kq : Nat) (x30_14 : Bool), v30 = .bool x30_14 ∧ Aside0 (spec_DirClass.j2 kq a0 x30_14 = some r) ∧ Aside0 (kq ≤ kj8) ∧ Drawn0 w wc)
               case first =>
                have H := HC15.out
                clear HC15
                by_cases c16 : a0 = 8207
                · rw [if_pos c16] at H
                  have c16b0 : (a0 == 8207) = true := beq_iff_eq.mpr c16
                  have c16b1 : (a0 != 8207) = false := bne_eq_false_iff_eq.mpr c16
                  clear c16
                  (first | rw [c16b0] | (simp only [i64_w, i32_w]; rw [c16b0]) | skip)
                  have H' := aMk H
                  clear H
                  go_wp2
                  go_meet
                  case rel => exact ⟨_, (true), (by first | rfl | (simp; done) | (simp [*]; done)), H', ⟨by have := HJ3.out; have := HJ8.out; first | omega | exact Nat.le_refl _⟩, by repeat (first | exact Drawn0.refl _ | apply Drawn0.step)⟩
                · rw [if_neg c16] at H
                  have c16b0 : (a0 == 8207) = false := beq_eq_false_iff_ne.mpr c16
                  have c16b1 : (a0 != 8207) = true := bne_iff_ne.mpr c16
                  (first | rw [c16b0] | (simp only [i64_w, i32_w]; rw [c16b0]) | skip)
                  replace H := oBm H
                  obtain ⟨t128, A170, H⟩ := H
                  replace H : (if t128 = true then (spec_DirClass.j2 kj8 a0 true) else ((spec_l12In.f a0 1984 2143).bind fun t129 => (spec_DirClass.j2 kj8 a0 t129))) = some r := H
                  have A17 := aMk A170
                  clear A170
                  by_cases c18 : t128 = true
                  · subst c18
                    have H1 : (spec_DirClass.j2 kj8 a0 true) = some r := by rw [if_pos rfl] at H; exact H
                    clear H
                    have H := H1
                    clear H1
                    have H' := aMk H
                    clear H
                    go_wp2_with (first | (go_at_call 54; (with_reducible refine (spec_l12In.calls a0 1424 1535 true _ A17.out).mono ?_); rintro e w' ⟨rfl, ⟨nd, rfl⟩⟩))
                    go_meet
                    case rel => exact ⟨_, (true), (by first | rfl | (simp; done) | (simp [*]; done)), H', ⟨by have := HJ3.out; have := HJ8.out; first | omega | exact Nat.le_refl _⟩, by repeat (first | exact Drawn0.refl _ | apply Drawn0.step)⟩
                  · replace c18 := Bool.eq_false_iff.mpr c18
                    subst c18
                    have H1 : ((spec_l12In.f a0 1984 2143).bind fun t129 => (spec_DirClass.j2 kj8 a0 t129)) = some r := by rw [if_neg (show ¬ (false = true) by decide)] at H; exact H
                    clear H
                    have H := H1
                    clear H1
                    replace H := oBm H
                    obtain ⟨t129, A190, H⟩ := H
                    replace H : (spec_DirClass.j2 kj8 a0 t129) = some r := H
                    have A19 := aMk A190
                    clear A190
                    have H' := aMk H
                    clear H
                    go_wp2_with (first | (go_at_call 54; (with_reducible refine (spec_l12In.calls a0 1424 1535 false _ A17.out).mono ?_); rintro e w' ⟨rfl, ⟨nd, rfl⟩⟩) | (go_at_call 54; (with_reducible refine (spec_l12In.calls a0 1984 2143 t129 _ A19.out).mono ?_); rintro e w' ⟨rfl, ⟨nd, rfl⟩⟩))
                    go_meet
                    case rel => exact ⟨_, (t129), (by first | rfl | (simp; done) | (simp [*]; done)), H', ⟨by have := HJ3.out; have := HJ8.out; first | omega | exact Nat.le_refl _⟩, by repeat (first | exact Drawn0.refl _ | apply Drawn0.step)⟩
               case rest =>
                clear HC15
                (try clear c1); (try clear c2); (try clear c2b0); (try clear c2b1); (try clear p2); (try clear c3); (try clear c3b0); (try clear c3b1); (try clear c4); (try clear c5); (try clear c5b0); (try clear c5b1); (try clear c6); (try clear c6b0); (try clear c6b1); (try clear c8); (try clear c11); (try clear c13); (try clear c14); (try clear c14b0); (try clear c14b1); (try clear c16); (try clear c16b0); (try clear c16b1); (try clear c18); (try clear p2)
                obtain ⟨kq, x30_14, rfl, HA, HJ14, ⟨mc14, rfl⟩⟩ := hcut
                cases kq with
                | zero => exact absurd HA.out (by simp [spec_DirClass.j2])
                | succ kj14 =>
                 have H := HA.out
                 clear HA
                 simp only [spec_DirClass.j2] at H
                 by_cases c20 : x30_14 = true
                 · subst c20
                   have H1 : (some 1) = some r := by rw [if_pos rfl] at H; exact H
                   clear H
                   have H := H1
                   clear H1
                   obtain rfl := Option.some.inj H
                   go_wp2
                   go_ret
                   exact ⟨by first | rfl | (simp; done) | (simp [*]; done), by repeat (first | exact Drawn0.refl _ | apply Drawn0.step)⟩
                 · replace c20 := Bool.eq_false_iff.mpr c20
                   subst c20
                   have H1 : ((spec_l12In.f a0 1632 1641).bind fun t130 => (if t130 = true then (some 4) else ((spec_l12In.f a0 1536 1983).bind fun t131 => (if t131 = true then (some 2) else ((spec_l12In.f a0 48 57).bind fun t132 => (if t132 = true then (some 3) else (if a0 = 43 then (spec_DirClass.j3 kj14 a0 true) else (spec_DirClass.j3 kj14 a0 (a0 == 45))))))))) = some r := by rw [if_neg (show ¬ (false = true) by decide)] at H; exact H
                   clear H
                   have H := H1
                   clear H1
                   replace H := oBm H
                   obtain ⟨t130, A210, H⟩ := H
                   replace H : (if t130 = true then (some 4) else ((spec_l12In.f a0 1536 1983).bind fun t131 => (if t131 = true then (some 2) else ((spec_l12In.f a0 48 57).bind fun t132 => (if t132 = true then (some 3) else (if a0 = 43 then (spec_DirClass.j3 kj14 a0 true) else (spec_DirClass.j3 kj14 a0 (a0 == 45)))))))) = some r := H
                   have A21 := aMk A210
                   clear A210
                   by_cases c22 : t130 = true
                   · subst c22
                     have H1 : (some 4) = some r := by rw [if_pos rfl] at H; exact H
                     clear H
                     have H := H1
                     clear H1
                     obtain rfl := Option.some.inj H
                     go_wp2_with (first | ((with_reducible refine gate_callee (f := 54) rfl ?_); refine goesL_ (some 43) rfl rfl Try.func54 (by kernel_rfl) rfl #[.int .i64 a0, .int .i64 1632, .int .i64 1641] rfl (by (try simp only [List.map_toArray, List.map_cons, List.map_nil]); first | done | rfl | (simp only [List.length_drop, List.length_take]; rfl)) ?_; (with_reducible refine (spec_l12In.calls a0 1632 1641 true _ A21.out).mono ?_); rintro e w' ⟨rfl, ⟨nd, rfl⟩⟩; refine ⟨_, rfl, ?_⟩))
                     go_ret
                     exact ⟨by first | rfl | (simp; done) | (simp [*]; done), by repeat (first | exact Drawn0.refl _ | apply Drawn0.step)⟩
                   · replace c22 := Bool.eq_false_iff.mpr c22
                     subst c22
                     have H1 : ((spec_l12In.f a0 1536 1983).bind fun t131 => (if t131 = true then (some 2) else ((spec_l12In.f a0 48 57).bind fun t132 => (if t132 = true then (some 3) else (if a0 = 43 then (spec_DirClass.j3 kj14 a0 true) else (spec_DirClass.j3 kj14 a0 (a0 == 45))))))) = some r := by rw [if_neg (show ¬ (false = true) by decide)] at H; exact H
                     clear H
                     have H := H1
                     clear H1
                     replace H := oBm H
                     obtain ⟨t131, A230, H⟩ := H
                     replace H : (if t131 = true then (some 2) else ((spec_l12In.f a0 48 57).bind fun t132 => (if t132 = true then (some 3) else (if a0 = 43 then (spec_DirClass.j3 kj14 a0 true) else (spec_DirClass.j3 kj14 a0 (a0 == 45)))))) = some r := H
                     have A23 := aMk A230
                     clear A230
                     by_cases c24 : t131 = true
                     · subst c24
                       have H1 : (some 2) = some r := by rw [if_pos rfl] at H; exact H
                       clear H
                       have H := H1
                       clear H1
                       obtain rfl := Option.some.inj H
                       go_wp2_with (first | ((with_reducible refine gate_callee (f := 54) rfl ?_); refine goesL_ (some 43) rfl rfl Try.func54 (by kernel_rfl) rfl #[.int .i64 a0, .int .i64 1632, .int .i64 1641] rfl (by (try simp only [List.map_toArray, List.map_cons, List.map_nil]); first | done | rfl | (simp only [List.length_drop, List.length_take]; rfl)) ?_; (with_reducible refine (spec_l12In.calls a0 1632 1641 false _ A21.out).mono ?_); rintro e w' ⟨rfl, ⟨nd, rfl⟩⟩; refine ⟨_, rfl, ?_⟩) | ((with_reducible refine gate_callee (f := 54) rfl ?_); refine goesL_ (some 46) rfl rfl Try.func54 (by kernel_rfl) rfl #[.int .i64 a0, .int .i64 1536, .int .i64 1983] rfl (by (try simp only [List.map_toArray, List.map_cons, List.map_nil]); first | done | rfl | (simp only [List.length_drop, List.length_take]; rfl)) ?_; (with_reducible refine (spec_l12In.calls a0 1536 1983 true _ A23.out).mono ?_); rintro e w' ⟨rfl, ⟨nd, rfl⟩⟩; refine ⟨_, rfl, ?_⟩))
                       go_ret
                       exact ⟨by first | rfl | (simp; done) | (simp [*]; done), by repeat (first | exact Drawn0.refl _ | apply Drawn0.step)⟩
                     · replace c24 := Bool.eq_false_iff.mpr c24
                       subst c24
                       have H1 : ((spec_l12In.f a0 48 57).bind fun t132 => (if t132 = true then (some 3) else (if a0 = 43 then (spec_DirClass.j3 kj14 a0 true) else (spec_DirClass.j3 kj14 a0 (a0 == 45))))) = some r := by rw [if_neg (show ¬ (false = true) by decide)] at H; exact H
                       clear H
                       have H := H1
                       clear H1
                       replace H := oBm H
                       obtain ⟨t132, A250, H⟩ := H
                       replace H : (if t132 = true then (some 3) else (if a0 = 43 then (spec_DirClass.j3 kj14 a0 true) else (spec_DirClass.j3 kj14 a0 (a0 == 45)))) = some r := H
                       have A25 := aMk A250
                       clear A250
                       by_cases c26 : t132 = true
                       · subst c26
                         have H1 : (some 3) = some r := by rw [if_pos rfl] at H; exact H
                         clear H
                         have H := H1
                         clear H1
                         obtain rfl := Option.some.inj H
                         go_wp2_with (first | ((with_reducible refine gate_callee (f := 54) rfl ?_); refine goesL_ (some 43) rfl rfl Try.func54 (by kernel_rfl) rfl #[.int .i64 a0, .int .i64 1632, .int .i64 1641] rfl (by (try simp only [List.map_toArray, List.map_cons, List.map_nil]); first | done | rfl | (simp only [List.length_drop, List.length_take]; rfl)) ?_; (with_reducible refine (spec_l12In.calls a0 1632 1641 false _ A21.out).mono ?_); rintro e w' ⟨rfl, ⟨nd, rfl⟩⟩; refine ⟨_, rfl, ?_⟩) | ((with_reducible refine gate_callee (f := 54) rfl ?_); refine goesL_ (some 46) rfl rfl Try.func54 (by kernel_rfl) rfl #[.int .i64 a0, .int .i64 1536, .int .i64 1983] rfl (by (try simp only [List.map_toArray, List.map_cons, List.map_nil]); first | done | rfl | (simp only [List.length_drop, List.length_take]; rfl)) ?_; (with_reducible refine (spec_l12In.calls a0 1536 1983 false _ A23.out).mono ?_); rintro e w' ⟨rfl, ⟨nd, rfl⟩⟩; refine ⟨_, rfl, ?_⟩) | ((with_reducible refine gate_callee (f := 54) rfl ?_); refine goesL_ (some 49) rfl rfl Try.func54 (by kernel_rfl) rfl #[.int .i64 a0, .int .i64 48, .int .i64 57] rfl (by (try simp only [List.map_toArray, List.map_cons, List.map_nil]); first | done | rfl | (simp only [List.length_drop, List.length_take]; rfl)) ?_; (with_reducible refine (spec_l12In.calls a0 48 57 true _ A25.out).mono ?_); rintro e w' ⟨rfl, ⟨nd, rfl⟩⟩; refine ⟨_, rfl, ?_⟩))
                         go_ret
                         exact ⟨by first | rfl | (simp; done) | (simp [*]; done), by repeat (first | exact Drawn0.refl _ | apply Drawn0.step)⟩
                       · replace c26 := Bool.eq_false_iff.mpr c26
                         subst c26
                         have H1 : (if a0 = 43 then (spec_DirClass.j3 kj14 a0 true) else (spec_DirClass.j3 kj14 a0 (a0 == 45))) = some r := by rw [if_neg (show ¬ (false = true) by decide)] at H; exact H
                         clear H
                         have H := H1
                         clear H1
                         have HC27 := aMk H
                         clear H
                         go_upto_region 19 with (first | ((with_reducible refine gate_callee (f := 54) rfl ?_); refine goesL_ (some 43) rfl rfl Try.func54 (by kernel_rfl) rfl #[.int .i64 a0, .int .i64 1632, .int .i64 1641] rfl (by (try simp only [List.map_toArray, List.map_cons, List.map_nil]); first | done | rfl | (simp only [List.length_drop, List.length_take]; rfl)) ?_; (with_reducible refine (spec_l12In.calls a0 1632 1641 false _ A21.out).mono ?_); rintro e w' ⟨rfl, ⟨nd, rfl⟩⟩; refine ⟨_, rfl, ?_⟩) | ((with_reducible refine gate_callee (f := 54) rfl ?_); refine goesL_ (some 46) rfl rfl Try.func54 (by kernel_rfl) rfl #[.int .i64 a0, .int .i64 1536, .int .i64 1983] rfl (by (try simp only [List.map_toArray, List.map_cons, List.map_nil]); first | done | rfl | (simp only [List.length_drop, List.length_take]; rfl)) ?_; (with_reducible refine (spec_l12In.calls a0 1536 1983 false _ A23.out).mono ?_); rintro e w' ⟨rfl, ⟨nd, rfl⟩⟩; refine ⟨_, rfl, ?_⟩) | ((with_reducible refine gate_callee (f := 54) rfl ?_); refine goesL_ (some 49) rfl rfl Try.func54 (by kernel_rfl) rfl #[.int .i64 a0, .int .i64 48, .int .i64 57] rfl (by (try simp only [List.map_toArray, List.map_cons, List.map_nil]); first | done | rfl | (simp only [List.length_drop, List.length_take]; rfl)) ?_; (with_reducible refine (spec_l12In.calls a0 48 57 false _ A25.out).mono ?_); rintro e w' ⟨rfl, ⟨nd, rfl⟩⟩; refine ⟨_, rfl, ?_⟩))
                         (try simp only [Act.put, lSa, lSz, lSs])
                         go_cut [50] (fun v50 wc => ∃ (kq : Nat) (x50_26 : Bool), v50 = .bool x50_26 ∧ Aside0 (spec_DirClass.j3 kq a0 x50_26 = some r) ∧ Aside0 (kq ≤ kj14) ∧ Drawn0 w wc)
                         case first =>
                          have H := HC27.out
                          clear HC27
                          by_cases c28 : a0 = 43
                          · rw [if_pos c28] at H
                            have c28b0 : (a0 == 43) = true := beq_iff_eq.mpr c28
                            have c28b1 : (a0 != 43) = false := bne_eq_false_iff_eq.mpr c28
                            clear c28
                            (first | rw [c28b0] | (simp only [i64_w, i32_w]; rw [c28b0]) | skip)
                            have H' := aMk H
                            clear H
                            go_wp2
                            go_meet
                            case rel => exact ⟨_, (true), (by first | rfl | (simp; done) | (simp [*]; done)), H', ⟨by have := HJ3.out; have := HJ8.out; have := HJ14.out; first | omega | exact Nat.le_refl _⟩, by repeat (first | exact Drawn0.refl _ | apply Drawn0.step)⟩
                          · rw [if_neg c28] at H
                            have c28b0 : (a0 == 43) = false := beq_eq_false_iff_ne.mpr c28
                            have c28b1 : (a0 != 43) = true := bne_iff_ne.mpr c28
                            (first | rw [c28b0] | (simp only [i64_w, i32_w]; rw [c28b0]) | skip)
                            have H' := aMk H
                            clear H
                            go_wp2
                            go_meet
                            case rel => exact ⟨_, ((a0 == 45)), (by first | rfl | (simp; done) | (simp [*]; done)), H', ⟨by have := HJ3.out; have := HJ8.out; have := HJ14.out; first | omega | exact Nat.le_refl _⟩, by repeat (first | exact Drawn0.refl _ | apply Drawn0.step)⟩
                         case rest =>
                          clear HC27
                          (try clear c1); (try clear c2); (try clear c2b0); (try clear c2b1); (try clear p2); (try clear c3); (try clear c3b0); (try clear c3b1); (try clear c4); (try clear c5); (try clear c5b0); (try clear c5b1); (try clear c6); (try clear c6b0); (try clear c6b1); (try clear c8); (try clear c11); (try clear c13); (try clear c14); (try clear c14b0); (try clear c14b1); (try clear c16); (try clear c16b0); (try clear c16b1); (try clear c18); (try clear c20); (try clear c22); (try clear c24); (try clear c26); (try clear c28); (try clear c28b0); (try clear c28b1); (try clear p2)
                          obtain ⟨kq, x50_26, rfl, HA, HJ26, ⟨mc26, rfl⟩⟩ := hcut
                          cases kq with
                          | zero => exact absurd HA.out (by simp [spec_DirClass.j3])
                          | succ kj26 =>
                           have H := HA.out
                           clear HA
                           simp only [spec_DirClass.j3] at H
                           by_cases c29 : x50_26 = true
                           · subst c29
                             have H1 : (some 5) = some r := by rw [if_pos rfl] at H; exact H
                             clear H
                             have H := H1
                             clear H1
                             obtain rfl := Option.some.inj H
                             go_wp2
                             go_ret
                             exact ⟨by first | rfl | (simp; done) | (simp [*]; done), by repeat (first | exact Drawn0.refl _ | apply Drawn0.step)⟩
                           · replace c29 := Bool.eq_false_iff.mpr c29
                             subst c29
                             have H1 : ((spec_l12In.f a0 35 37).bind fun t133 => (if t133 = true then (spec_DirClass.j4 kj26 a0 true) else ((spec_l12In.f a0 162 165).bind fun t134 => (if t134 = true then (spec_DirClass.j4 kj26 a0 true) else (spec_DirClass.j4 kj26 a0 (a0 == 8364)))))) = some r := by rw [if_neg (show ¬ (false = true) by decide)] at H; exact H
                             clear H
                             have H := H1
                             clear H1
                             have HC30 := aMk H
                             clear H
                             go_upto_region 21 with (fail)
                             go_cut [57] (fun v57 wc => ∃ (kq : Nat) (x57_29 : Bool), v57 = .bool x57_29 ∧ Aside0 (spec_DirClass.j4 kq a0 x57_29 = some r) ∧ Aside0 (kq ≤ kj26) ∧ Drawn0 w wc)
                             case first =>
                              have H := HC30.out
                              clear HC30
                              replace H := oBm H
                              obtain ⟨t133, A310, H⟩ := H
                              replace H : (if t133 = true then (spec_DirClass.j4 kj26 a0 true) else ((spec_l12In.f a0 162 165).bind fun t134 => (if t134 = true then (spec_DirClass.j4 kj26 a0 true) else (spec_DirClass.j4 kj26 a0 (a0 == 8364))))) = some r := H
                              have A31 := aMk A310
                              clear A310
                              by_cases c32 : t133 = true
                              · subst c32
                                have H1 : (spec_DirClass.j4 kj26 a0 true) = some r := by rw [if_pos rfl] at H; exact H
                                clear H
                                have H := H1
                                clear H1
                                have H' := aMk H
                                clear H
                                go_wp2_with (first | ((with_reducible refine gate_callee (f := 54) rfl ?_); refine goesL_ (some 59) rfl rfl Try.func54 (by kernel_rfl) rfl #[.int .i64 a0, .int .i64 35, .int .i64 37] rfl (by (try simp only [List.map_toArray, List.map_cons, List.map_nil]); first | done | rfl | (simp only [List.length_drop, List.length_take]; rfl)) ?_; (with_reducible refine (spec_l12In.calls a0 35 37 true _ A31.out).mono ?_); rintro e w' ⟨rfl, ⟨nd, rfl⟩⟩; refine ⟨_, rfl, ?_⟩))
                                go_meet
                                case rel => exact ⟨_, (true), (by first | rfl | (simp; done) | (simp [*]; done)), H', ⟨by have := HJ3.out; have := HJ8.out; have := HJ14.out; have := HJ26.out; first | omega | exact Nat.le_refl _⟩, by repeat (first | exact Drawn0.refl _ | apply Drawn0.step)⟩
                              · replace c32 := Bool.eq_false_iff.mpr c32
                                subst c32
                                have H1 : ((spec_l12In.f a0 162 165).bind fun t134 => (if t134 = true then (spec_DirClass.j4 kj26 a0 true) else (spec_DirClass.j4 kj26 a0 (a0 == 8364)))) = some r := by rw [if_neg (show ¬ (false = true) by decide)] at H; exact H
                                clear H
                                have H := H1
                                clear H1
                                replace H := oBm H
                                obtain ⟨t134, A330, H⟩ := H
                                replace H : (if t134 = true then (spec_DirClass.j4 kj26 a0 true) else (spec_DirClass.j4 kj26 a0 (a0 == 8364))) = some r := H
                                have A33 := aMk A330
                                clear A330
                                by_cases c34 : t134 = true
                                · subst c34
                                  have H1 : (spec_DirClass.j4 kj26 a0 true) = some r := by rw [if_pos rfl] at H; exact H
                                  clear H
                                  have H := H1
                                  clear H1
                                  have H' := aMk H
                                  clear H
                                  go_wp2_with (first | ((with_reducible refine gate_callee (f := 54) rfl ?_); refine goesL_ (some 59) rfl rfl Try.func54 (by kernel_rfl) rfl #[.int .i64 a0, .int .i64 35, .int .i64 37] rfl (by (try simp only [List.map_toArray, List.map_cons, List.map_nil]); first | done | rfl | (simp only [List.length_drop, List.length_take]; rfl)) ?_; (with_reducible refine (spec_l12In.calls a0 35 37 false _ A31.out).mono ?_); rintro e w' ⟨rfl, ⟨nd, rfl⟩⟩; refine ⟨_, rfl, ?_⟩) | (go_at_call 54; (with_reducible refine (spec_l12In.calls a0 162 165 true _ A33.out).mono ?_); rintro e w' ⟨rfl, ⟨nd, rfl⟩⟩))
                                  go_meet
                                  case rel => exact ⟨_, (true), (by first | rfl | (simp; done) | (simp [*]; done)), H', ⟨by have := HJ3.out; have := HJ8.out; have := HJ14.out; have := HJ26.out; first | omega | exact Nat.le_refl _⟩, by repeat (first | exact Drawn0.refl _ | apply Drawn0.step)⟩
                                · replace c34 := Bool.eq_false_iff.mpr c34
                                  subst c34
                                  have H1 : (spec_DirClass.j4 kj26 a0 (a0 == 8364)) = some r := by rw [if_neg (show ¬ (false = true) by decide)] at H; exact H
                                  clear H
                                  have H := H1
                                  clear H1
                                  have H' := aMk H
                                  clear H
                                  go_wp2_with (first | ((with_reducible refine gate_callee (f := 54) rfl ?_); refine goesL_ (some 59) rfl rfl Try.func54 (by kernel_rfl) rfl #[.int .i64 a0, .int .i64 35, .int .i64 37] rfl (by (try simp only [List.map_toArray, List.map_cons, List.map_nil]); first | done | rfl | (simp only [List.length_drop, List.length_take]; rfl)) ?_; (with_reducible refine (spec_l12In.calls a0 35 37 false _ A31.out).mono ?_); rintro e w' ⟨rfl, ⟨nd, rfl⟩⟩; refine ⟨_, rfl, ?_⟩) | (go_at_call 54; (with_reducible refine (spec_l12In.calls a0 162 165 false _ A33.out).mono ?_); rintro e w' ⟨rfl, ⟨nd, rfl⟩⟩))
                                  go_meet
                                  case rel => exact ⟨_, ((a0 == 8364)), (by first | rfl | (simp; done) | (simp [*]; done)), H', ⟨by have := HJ3.out; have := HJ8.out; have := HJ14.out; have := HJ26.out; first | omega | exact Nat.le_refl _⟩, by repeat (first | exact Drawn0.refl _ | apply Drawn0.step)⟩
                             case rest =>
                              clear HC30
                              (try clear c1); (try clear c2); (try clear c2b0); (try clear c2b1); (try clear p2); (try clear c3); (try clear c3b0); (try clear c3b1); (try clear c4); (try clear c5); (try clear c5b0); (try clear c5b1); (try clear c6); (try clear c6b0); (try clear c6b1); (try clear c8); (try clear c11); (try clear c13); (try clear c14); (try clear c14b0); (try clear c14b1); (try clear c16); (try clear c16b0); (try clear c16b1); (try clear c18); (try clear c20); (try clear c22); (try clear c24); (try clear c26); (try clear c28); (try clear c28b0); (try clear c28b1); (try clear c29); (try clear c32); (try clear c34); (try clear p2)
                              obtain ⟨kq, x57_29, rfl, HA, HJ29, ⟨mc29, rfl⟩⟩ := hcut
                              cases kq with
                              | zero => exact absurd HA.out (by simp [spec_DirClass.j4])
                              | succ kj29 =>
                               have H := HA.out
                               clear HA
                               simp only [spec_DirClass.j4] at H
                               by_cases c35 : x57_29 = true
                               · subst c35
                                 have H1 : (some 6) = some r := by rw [if_pos rfl] at H; exact H
                                 clear H
                                 have H := H1
                                 clear H1
                                 obtain rfl := Option.some.inj H
                                 go_wp2
                                 go_ret
                                 exact ⟨by first | rfl | (simp; done) | (simp [*]; done), by repeat (first | exact Drawn0.refl _ | apply Drawn0.step)⟩
                               · replace c35 := Bool.eq_false_iff.mpr c35
                                 subst c35
                                 have H1 : (if a0 = 44 then (spec_DirClass.j5 kj29 a0 true) else (if a0 = 46 then (spec_DirClass.j5 kj29 a0 true) else (if a0 = 47 then (spec_DirClass.j5 kj29 a0 true) else (if a0 = 58 then (spec_DirClass.j5 kj29 a0 true) else (spec_DirClass.j5 kj29 a0 (a0 == 160)))))) = some r := by rw [if_neg (show ¬ (false = true) by decide)] at H; exact H
                                 clear H
                                 have H := H1
                                 clear H1
                                 have HC36 := aMk H
                                 clear H
                                 go_upto_region 23 with (fail)
                                 go_cut [68] (fun v68 wc => ∃ (kq : Nat) (x68_35 : Bool), v68 = .bool x68_35 ∧ Aside0 (spec_DirClass.j5 kq a0 x68_35 = some r) ∧ Aside0 (kq ≤ kj29) ∧ Drawn0 w wc)
                                 case first =>
                                  have H := HC36.out
                                  clear HC36
                                  by_cases c37 : a0 = 44
                                  · rw [if_pos c37] at H
                                    have c37b0 : (a0 == 44) = true := beq_iff_eq.mpr c37
                                    have c37b1 : (a0 != 44) = false := bne_eq_false_iff_eq.mpr c37
                                    clear c37
                                    (first | rw [c37b0] | (simp only [i64_w, i32_w]; rw [c37b0]) | skip)
                                    have H' := aMk H
                                    clear H
                                    go_wp2
                                    go_meet
                                    case rel => exact ⟨_, (true), (by first | rfl | (simp; done) | (simp [*]; done)), H', ⟨by have := HJ3.out; have := HJ8.out; have := HJ14.out; have := HJ26.out; have := HJ29.out; first | omega | exact Nat.le_refl _⟩, by repeat (first | exact Drawn0.refl _ | apply Drawn0.step)⟩
                                  · rw [if_neg c37] at H
                                    have c37b0 : (a0 == 44) = false := beq_eq_false_iff_ne.mpr c37
                                    have c37b1 : (a0 != 44) = true := bne_iff_ne.mpr c37
                                    (first | rw [c37b0] | (simp only [i64_w, i32_w]; rw [c37b0]) | skip)
                                    by_cases c38 : a0 = 46
                                    · rw [if_pos c38] at H
                                      have c38b0 : (a0 == 46) = true := beq_iff_eq.mpr c38
                                      have c38b1 : (a0 != 46) = false := bne_eq_false_iff_eq.mpr c38
                                      clear c38
                                      have H' := aMk H
                                      clear H
                                      go_wp2
                                      go_meet
                                      case rel => exact ⟨_, (true), (by first | rfl | (simp; done) | (simp [*]; done)), H', ⟨by have := HJ3.out; have := HJ8.out; have := HJ14.out; have := HJ26.out; have := HJ29.out; first | omega | exact Nat.le_refl _⟩, by repeat (first | exact Drawn0.refl _ | apply Drawn0.step)⟩
                                    · rw [if_neg c38] at H
                                      have c38b0 : (a0 == 46) = false := beq_eq_false_iff_ne.mpr c38
                                      have c38b1 : (a0 != 46) = true := bne_iff_ne.mpr c38
                                      by_cases c39 : a0 = 47
                                      · rw [if_pos c39] at H
                                        have c39b0 : (a0 == 47) = true := beq_iff_eq.mpr c39
                                        have c39b1 : (a0 != 47) = false := bne_eq_false_iff_eq.mpr c39
                                        clear c39
                                        have H' := aMk H
                                        clear H
                                        go_wp2
                                        go_meet
                                        case rel => exact ⟨_, (true), (by first | rfl | (simp; done) | (simp [*]; done)), H', ⟨by have := HJ3.out; have := HJ8.out; have := HJ14.out; have := HJ26.out; have := HJ29.out; first | omega | exact Nat.le_refl _⟩, by repeat (first | exact Drawn0.refl _ | apply Drawn0.step)⟩
                                      · rw [if_neg c39] at H
                                        have c39b0 : (a0 == 47) = false := beq_eq_false_iff_ne.mpr c39
                                        have c39b1 : (a0 != 47) = true := bne_iff_ne.mpr c39
                                        by_cases c40 : a0 = 58
                                        · rw [if_pos c40] at H
                                          have c40b0 : (a0 == 58) = true := beq_iff_eq.mpr c40
                                          have c40b1 : (a0 != 58) = false := bne_eq_false_iff_eq.mpr c40
                                          clear c40
                                          have H' := aMk H
                                          clear H
                                          go_wp2
                                          go_meet
                                          case rel => exact ⟨_, (true), (by first | rfl | (simp; done) | (simp [*]; done)), H', ⟨by have := HJ3.out; have := HJ8.out; have := HJ14.out; have := HJ26.out; have := HJ29.out; first | omega | exact Nat.le_refl _⟩, by repeat (first | exact Drawn0.refl _ | apply Drawn0.step)⟩
                                        · rw [if_neg c40] at H
                                          have c40b0 : (a0 == 58) = false := beq_eq_false_iff_ne.mpr c40
                                          have c40b1 : (a0 != 58) = true := bne_iff_ne.mpr c40
                                          have H' := aMk H
                                          clear H
                                          go_wp2
                                          go_meet
                                          case rel => exact ⟨_, ((a0 == 160)), (by first | rfl | (simp; done) | (simp [*]; done)), H', ⟨by have := HJ3.out; have := HJ8.out; have := HJ14.out; have := HJ26.out; have := HJ29.out; first | omega | exact Nat.le_refl _⟩, by repeat (first | exact Drawn0.refl _ | apply Drawn0.step)⟩
                                 case rest =>
                                  clear HC36
                                  (try clear c1); (try clear c2); (try clear c2b0); (try clear c2b1); (try clear p2); (try clear c3); (try clear c3b0); (try clear c3b1); (try clear c4); (try clear c5); (try clear c5b0); (try clear c5b1); (try clear c6); (try clear c6b0); (try clear c6b1); (try clear c8); (try clear c11); (try clear c13); (try clear c14); (try clear c14b0); (try clear c14b1); (try clear c16); (try clear c16b0); (try clear c16b1); (try clear c18); (try clear c20); (try clear c22); (try clear c24); (try clear c26); (try clear c28); (try clear c28b0); (try clear c28b1); (try clear c29); (try clear c32); (try clear c34); (try clear c35); (try clear c37); (try clear c37b0); (try clear c37b1); (try clear c38); (try clear c38b0); (try clear c38b1); (try clear c39); (try clear c39b0); (try clear c39b1); (try clear c40); (try clear c40b0); (try clear c40b1); (try clear p2)
                                  obtain ⟨kq, x68_35, rfl, HA, HJ35, ⟨mc35, rfl⟩⟩ := hcut
                                  cases kq with
                                  | zero => exact absurd HA.out (by simp [spec_DirClass.j5])
                                  | succ kj35 =>
                                   have H := HA.out
                                   clear HA
                                   simp only [spec_DirClass.j5] at H
                                   by_cases c41 : x68_35 = true
                                   · subst c41
                                     have H1 : (some 7) = some r := by rw [if_pos rfl] at H; exact H
                                     clear H
                                     have H := H1
                                     clear H1
                                     obtain rfl := Option.some.inj H
                                     go_wp2
                                     go_ret
                                     exact ⟨by first | rfl | (simp; done) | (simp [*]; done), by repeat (first | exact Drawn0.refl _ | apply Drawn0.step)⟩
                                   · replace c41 := Bool.eq_false_iff.mpr c41
                                     subst c41
                                     have H1 : (if a0 = 33 then (spec_DirClass.j6 kj35 a0 true) else (if a0 = 34 then (spec_DirClass.j6 kj35 a0 true) else ((spec_l12In.f a0 38 42).bind fun t135 => (if t135 = true then (spec_DirClass.j6 kj35 a0 true) else ((spec_l12In.f a0 59 64).bind fun t136 => (if t136 = true then (spec_DirClass.j6 kj35 a0 true) else ((spec_l12In.f a0 91 96).bind fun t137 => (if t137 = true then (spec_DirClass.j6 kj35 a0 true) else ((spec_l12In.f a0 123 126).bind fun t138 => (spec_DirClass.j6 kj35 a0 t138)))))))))) = some r := by rw [if_neg (show ¬ (false = true) by decide)] at H; exact H
                                     clear H
                                     have H := H1
                                     clear H1
                                     have HC42 := aMk H
                                     clear H
                                     go_upto_region 25 with (fail)
                                     go_cut [87] (fun v87 wc => ∃ (kq : Nat) (x87_41 : Bool), v87 = .bool x87_41 ∧ Aside0 (spec_DirClass.j6 kq a0 x87_41 = some r) ∧ Aside0 (kq ≤ kj35) ∧ Drawn0 w wc)
                                     case first =>
                                      have H := HC42.out
                                      clear HC42
                                      by_cases c43 : a0 = 33
                                      · rw [if_pos c43] at H
                                        have c43b0 : (a0 == 33) = true := beq_iff_eq.mpr c43
                                        have c43b1 : (a0 != 33) = false := bne_eq_false_iff_eq.mpr c43
                                        clear c43
                                        (first | rw [c43b0] | (simp only [i64_w, i32_w]; rw [c43b0]) | skip)
                                        have H' := aMk H
                                        clear H
                                        go_wp2
                                        go_meet
                                        case rel => exact ⟨_, (true), (by first | rfl | (simp; done) | (simp [*]; done)), H', ⟨by have := HJ3.out; have := HJ8.out; have := HJ14.out; have := HJ26.out; have := HJ29.out; have := HJ35.out; first | omega | exact Nat.le_refl _⟩, by repeat (first | exact Drawn0.refl _ | apply Drawn0.step)⟩
                                      · rw [if_neg c43] at H
                                        have c43b0 : (a0 == 33) = false := beq_eq_false_iff_ne.mpr c43
                                        have c43b1 : (a0 != 33) = true := bne_iff_ne.mpr c43
                                        (first | rw [c43b0] | (simp only [i64_w, i32_w]; rw [c43b0]) | skip)
                                        by_cases c44 : a0 = 34
                                        · rw [if_pos c44] at H
                                          have c44b0 : (a0 == 34) = true := beq_iff_eq.mpr c44
                                          have c44b1 : (a0 != 34) = false := bne_eq_false_iff_eq.mpr c44
                                          clear c44
                                          have H' := aMk H
                                          clear H
                                          go_wp2
                                          go_meet
                                          case rel => exact ⟨_, (true), (by first | rfl | (simp; done) | (simp [*]; done)), H', ⟨by have := HJ3.out; have := HJ8.out; have := HJ14.out; have := HJ26.out; have := HJ29.out; have := HJ35.out; first | omega | exact Nat.le_refl _⟩, by repeat (first | exact Drawn0.refl _ | apply Drawn0.step)⟩
                                        · rw [if_neg c44] at H
                                          have c44b0 : (a0 == 34) = false := beq_eq_false_iff_ne.mpr c44
                                          have c44b1 : (a0 != 34) = true := bne_iff_ne.mpr c44
                                          replace H := oBm H
                                          obtain ⟨t135, A450, H⟩ := H
                                          replace H : (if t135 = true then (spec_DirClass.j6 kj35 a0 true) else ((spec_l12In.f a0 59 64).bind fun t136 => (if t136 = true then (spec_DirClass.j6 kj35 a0 true) else ((spec_l12In.f a0 91 96).bind fun t137 => (if t137 = true then (spec_DirClass.j6 kj35 a0 true) else ((spec_l12In.f a0 123 126).bind fun t138 => (spec_DirClass.j6 kj35 a0 t138))))))) = some r := H
                                          have A45 := aMk A450
                                          clear A450
                                          by_cases c46 : t135 = true
                                          · subst c46
                                            have H1 : (spec_DirClass.j6 kj35 a0 true) = some r := by rw [if_pos rfl] at H; exact H
                                            clear H
                                            have H := H1
                                            clear H1
                                            have H' := aMk H
                                            clear H
                                            go_wp2_with (first | (go_at_call 54; (with_reducible refine (spec_l12In.calls a0 38 42 true _ A45.out).mono ?_); rintro e w' ⟨rfl, ⟨nd, rfl⟩⟩))
                                            go_meet
                                            case rel => exact ⟨_, (true), (by first | rfl | (simp; done) | (simp [*]; done)), H', ⟨by have := HJ3.out; have := HJ8.out; have := HJ14.out; have := HJ26.out; have := HJ29.out; have := HJ35.out; first | omega | exact Nat.le_refl _⟩, by repeat (first | exact Drawn0.refl _ | apply Drawn0.step)⟩
                                          · replace c46 := Bool.eq_false_iff.mpr c46
                                            subst c46
                                            have H1 : ((spec_l12In.f a0 59 64).bind fun t136 => (if t136 = true then (spec_DirClass.j6 kj35 a0 true) else ((spec_l12In.f a0 91 96).bind fun t137 => (if t137 = true then (spec_DirClass.j6 kj35 a0 true) else ((spec_l12In.f a0 123 126).bind fun t138 => (spec_DirClass.j6 kj35 a0 t138)))))) = some r := by rw [if_neg (show ¬ (false = true) by decide)] at H; exact H
                                            clear H
                                            have H := H1
                                            clear H1
                                            replace H := oBm H
                                            obtain ⟨t136, A470, H⟩ := H
                                            replace H : (if t136 = true then (spec_DirClass.j6 kj35 a0 true) else ((spec_l12In.f a0 91 96).bind fun t137 => (if t137 = true then (spec_DirClass.j6 kj35 a0 true) else ((spec_l12In.f a0 123 126).bind fun t138 => (spec_DirClass.j6 kj35 a0 t138))))) = some r := H
                                            have A47 := aMk A470
                                            clear A470
                                            by_cases c48 : t136 = true
                                            · subst c48
                                              have H1 : (spec_DirClass.j6 kj35 a0 true) = some r := by rw [if_pos rfl] at H; exact H
                                              clear H
                                              have H := H1
                                              clear H1
                                              have H' := aMk H
                                              clear H
                                              go_wp2_with (first | (go_at_call 54; (with_reducible refine (spec_l12In.calls a0 38 42 false _ A45.out).mono ?_); rintro e w' ⟨rfl, ⟨nd, rfl⟩⟩) | (go_at_call 54; (with_reducible refine (spec_l12In.calls a0 59 64 true _ A47.out).mono ?_); rintro e w' ⟨rfl, ⟨nd, rfl⟩⟩))
                                              go_meet
                                              case rel => exact ⟨_, (true), (by first | rfl | (simp; done) | (simp [*]; done)), H', ⟨by have := HJ3.out; have := HJ8.out; have := HJ14.out; have := HJ26.out; have := HJ29.out; have := HJ35.out; first | omega | exact Nat.le_refl _⟩, by repeat (first | exact Drawn0.refl _ | apply Drawn0.step)⟩
                                            · replace c48 := Bool.eq_false_iff.mpr c48
                                              subst c48
                                              have H1 : ((spec_l12In.f a0 91 96).bind fun t137 => (if t137 = true then (spec_DirClass.j6 kj35 a0 true) else ((spec_l12In.f a0 123 126).bind fun t138 => (spec_DirClass.j6 kj35 a0 t138)))) = some r := by rw [if_neg (show ¬ (false = true) by decide)] at H; exact H
                                              clear H
                                              have H := H1
                                              clear H1
                                              replace H := oBm H
                                              obtain ⟨t137, A490, H⟩ := H
                                              replace H : (if t137 = true then (spec_DirClass.j6 kj35 a0 true) else ((spec_l12In.f a0 123 126).bind fun t138 => (spec_DirClass.j6 kj35 a0 t138))) = some r := H
                                              have A49 := aMk A490
                                              clear A490
                                              by_cases c50 : t137 = true
                                              · subst c50
                                                have H1 : (spec_DirClass.j6 kj35 a0 true) = some r := by rw [if_pos rfl] at H; exact H
                                                clear H
                                                have H := H1
                                                clear H1
                                                have H' := aMk H
                                                clear H
                                                go_wp2_with (first | (go_at_call 54; (with_reducible refine (spec_l12In.calls a0 38 42 false _ A45.out).mono ?_); rintro e w' ⟨rfl, ⟨nd, rfl⟩⟩) | (go_at_call 54; (with_reducible refine (spec_l12In.calls a0 59 64 false _ A47.out).mono ?_); rintro e w' ⟨rfl, ⟨nd, rfl⟩⟩) | (go_at_call 54; (with_reducible refine (spec_l12In.calls a0 91 96 true _ A49.out).mono ?_); rintro e w' ⟨rfl, ⟨nd, rfl⟩⟩))
                                                go_meet
                                                case rel => exact ⟨_, (true), (by first | rfl | (simp; done) | (simp [*]; done)), H', ⟨by have := HJ3.out; have := HJ8.out; have := HJ14.out; have := HJ26.out; have := HJ29.out; have := HJ35.out; first | omega | exact Nat.le_refl _⟩, by repeat (first | exact Drawn0.refl _ | apply Drawn0.step)⟩
                                              · replace c50 := Bool.eq_false_iff.mpr c50
                                                subst c50
                                                have H1 : ((spec_l12In.f a0 123 126).bind fun t138 => (spec_DirClass.j6 kj35 a0 t138)) = some r := by rw [if_neg (show ¬ (false = true) by decide)] at H; exact H
                                                clear H
                                                have H := H1
                                                clear H1
                                                replace H := oBm H
                                                obtain ⟨t138, A510, H⟩ := H
                                                replace H : (spec_DirClass.j6 kj35 a0 t138) = some r := H
                                                have A51 := aMk A510
                                                clear A510
                                                have H' := aMk H
                                                clear H
                                                go_wp2_with (first | (go_at_call 54; (with_reducible refine (spec_l12In.calls a0 38 42 false _ A45.out).mono ?_); rintro e w' ⟨rfl, ⟨nd, rfl⟩⟩) | (go_at_call 54; (with_reducible refine (spec_l12In.calls a0 59 64 false _ A47.out).mono ?_); rintro e w' ⟨rfl, ⟨nd, rfl⟩⟩) | (go_at_call 54; (with_reducible refine (spec_l12In.calls a0 91 96 false _ A49.out).mono ?_); rintro e w' ⟨rfl, ⟨nd, rfl⟩⟩) | (go_at_call 54; (with_reducible refine (spec_l12In.calls a0 123 126 t138 _ A51.out).mono ?_); rintro e w' ⟨rfl, ⟨nd, rfl⟩⟩))
                                                go_meet
                                                case rel => exact ⟨_, (t138), (by first | rfl | (simp; done) | (simp [*]; done)), H', ⟨by have := HJ3.out; have := HJ8.out; have := HJ14.out; have := HJ26.out; have := HJ29.out; have := HJ35.out; first | omega | exact Nat.le_refl _⟩, by repeat (first | exact Drawn0.refl _ | apply Drawn0.step)⟩
                                     case rest =>
                                      clear HC42
                                      (try clear c1); (try clear c2); (try clear c2b0); (try clear c2b1); (try clear p2); (try clear c3); (try clear c3b0); (try clear c3b1); (try clear c4); (try clear c5); (try clear c5b0); (try clear c5b1); (try clear c6); (try clear c6b0); (try clear c6b1); (try clear c8); (try clear c11); (try clear c13); (try clear c14); (try clear c14b0); (try clear c14b1); (try clear c16); (try clear c16b0); (try clear c16b1); (try clear c18); (try clear c20); (try clear c22); (try clear c24); (try clear c26); (try clear c28); (try clear c28b0); (try clear c28b1); (try clear c29); (try clear c32); (try clear c34); (try clear c35); (try clear c37); (try clear c37b0); (try clear c37b1); (try clear c38); (try clear c38b0); (try clear c38b1); (try clear c39); (try clear c39b0); (try clear c39b1); (try clear c40); (try clear c40b0); (try clear c40b1); (try clear c41); (try clear c43); (try clear c43b0); (try clear c43b1); (try clear c44); (try clear c44b0); (try clear c44b1); (try clear c46); (try clear c48); (try clear c50); (try clear p2)
                                      obtain ⟨kq, x87_41, rfl, HA, HJ41, ⟨mc41, rfl⟩⟩ := hcut
                                      cases kq with
                                      | zero => exact absurd HA.out (by simp [spec_DirClass.j6])
                                      | succ kj41 =>
                                       have H := HA.out
                                       clear HA
                                       simp only [spec_DirClass.j6] at H
                                       by_cases c52 : x87_41 = true
                                       · subst c52
                                         have H1 : (some 12) = some r := by rw [if_pos rfl] at H; exact H
                                         clear H
                                         have H := H1
                                         clear H1
                                         obtain rfl := Option.some.inj H
                                         go_wp2
                                         go_ret
                                         exact ⟨by first | rfl | (simp; done) | (simp [*]; done), by repeat (first | exact Drawn0.refl _ | apply Drawn0.step)⟩
                                       · replace c52 := Bool.eq_false_iff.mpr c52
                                         subst c52
                                         have H1 : (if a0 = 161 then (some 12) else ((spec_l12In.f a0 166 169).bind fun t139 => (if t139 = true then (some 12) else ((spec_l12In.f a0 171 177).bind fun t140 => (if t140 = true then (some 12) else ((spec_l12In.f a0 8208 8231).bind fun t141 => (if t141 = true then (some 12) else (if a0 = 8203 then (some 12) else (some 0))))))))) = some r := by rw [if_neg (show ¬ (false = true) by decide)] at H; exact H
                                         clear H
                                         have H := H1
                                         clear H1
                                         by_cases c53 : a0 = 161
                                         · rw [if_pos c53] at H
                                           have c53b0 : (a0 == 161) = true := beq_iff_eq.mpr c53
                                           have c53b1 : (a0 != 161) = false := bne_eq_false_iff_eq.mpr c53
                                           clear c53
                                           obtain rfl := Option.some.inj H
                                           go_wp2
                                           go_ret
                                           exact ⟨by first | rfl | (simp; done) | (simp [*]; done), by repeat (first | exact Drawn0.refl _ | apply Drawn0.step)⟩
                                         · rw [if_neg c53] at H
                                           have c53b0 : (a0 == 161) = false := beq_eq_false_iff_ne.mpr c53
                                           have c53b1 : (a0 != 161) = true := bne_iff_ne.mpr c53
                                           replace H := oBm H
                                           obtain ⟨t139, A540, H⟩ := H
                                           replace H : (if t139 = true then (some 12) else ((spec_l12In.f a0 171 177).bind fun t140 => (if t140 = true then (some 12) else ((spec_l12In.f a0 8208 8231).bind fun t141 => (if t141 = true then (some 12) else (if a0 = 8203 then (some 12) else (some 0))))))) = some r := H
                                           have A54 := aMk A540
                                           clear A540
                                           by_cases c55 : t139 = true
                                           · subst c55
                                             have H1 : (some 12) = some r := by rw [if_pos rfl] at H; exact H
                                             clear H
                                             have H := H1
                                             clear H1
                                             obtain rfl := Option.some.inj H
                                             go_wp2_with (first | (go_at_call 54; (with_reducible refine (spec_l12In.calls a0 166 169 true _ A54.out).mono ?_); rintro e w' ⟨rfl, ⟨nd, rfl⟩⟩))
                                             go_ret
                                             exact ⟨by first | rfl | (simp; done) | (simp [*]; done), by repeat (first | exact Drawn0.refl _ | apply Drawn0.step)⟩
                                           · replace c55 := Bool.eq_false_iff.mpr c55
                                             subst c55
                                             have H1 : ((spec_l12In.f a0 171 177).bind fun t140 => (if t140 = true then (some 12) else ((spec_l12In.f a0 8208 8231).bind fun t141 => (if t141 = true then (some 12) else (if a0 = 8203 then (some 12) else (some 0)))))) = some r := by rw [if_neg (show ¬ (false = true) by decide)] at H; exact H
                                             clear H
                                             have H := H1
                                             clear H1
                                             replace H := oBm H
                                             obtain ⟨t140, A560, H⟩ := H
                                             replace H : (if t140 = true then (some 12) else ((spec_l12In.f a0 8208 8231).bind fun t141 => (if t141 = true then (some 12) else (if a0 = 8203 then (some 12) else (some 0))))) = some r := H
                                             have A56 := aMk A560
                                             clear A560
                                             by_cases c57 : t140 = true
                                             · subst c57
                                               have H1 : (some 12) = some r := by rw [if_pos rfl] at H; exact H
                                               clear H
                                               have H := H1
                                               clear H1
                                               obtain rfl := Option.some.inj H
                                               go_wp2_with (first | (go_at_call 54; (with_reducible refine (spec_l12In.calls a0 166 169 false _ A54.out).mono ?_); rintro e w' ⟨rfl, ⟨nd, rfl⟩⟩) | (go_at_call 54; (with_reducible refine (spec_l12In.calls a0 171 177 true _ A56.out).mono ?_); rintro e w' ⟨rfl, ⟨nd, rfl⟩⟩))
                                               go_ret
                                               exact ⟨by first | rfl | (simp; done) | (simp [*]; done), by repeat (first | exact Drawn0.refl _ | apply Drawn0.step)⟩
                                             · replace c57 := Bool.eq_false_iff.mpr c57
                                               subst c57
                                               have H1 : ((spec_l12In.f a0 8208 8231).bind fun t141 => (if t141 = true then (some 12) else (if a0 = 8203 then (some 12) else (some 0)))) = some r := by rw [if_neg (show ¬ (false = true) by decide)] at H; exact H
                                               clear H
                                               have H := H1
                                               clear H1
                                               replace H := oBm H
                                               obtain ⟨t141, A580, H⟩ := H
                                               replace H : (if t141 = true then (some 12) else (if a0 = 8203 then (some 12) else (some 0))) = some r := H
                                               have A58 := aMk A580
                                               clear A580
                                               by_cases c59 : t141 = true
                                               · subst c59
                                                 have H1 : (some 12) = some r := by rw [if_pos rfl] at H; exact H
                                                 clear H
                                                 have H := H1
                                                 clear H1
                                                 obtain rfl := Option.some.inj H
                                                 go_wp2_with (first | (go_at_call 54; (with_reducible refine (spec_l12In.calls a0 166 169 false _ A54.out).mono ?_); rintro e w' ⟨rfl, ⟨nd, rfl⟩⟩) | (go_at_call 54; (with_reducible refine (spec_l12In.calls a0 171 177 false _ A56.out).mono ?_); rintro e w' ⟨rfl, ⟨nd, rfl⟩⟩) | (go_at_call 54; (with_reducible refine (spec_l12In.calls a0 8208 8231 true _ A58.out).mono ?_); rintro e w' ⟨rfl, ⟨nd, rfl⟩⟩))
                                                 go_ret
                                                 exact ⟨by first | rfl | (simp; done) | (simp [*]; done), by repeat (first | exact Drawn0.refl _ | apply Drawn0.step)⟩
                                               · replace c59 := Bool.eq_false_iff.mpr c59
                                                 subst c59
                                                 have H1 : (if a0 = 8203 then (some 12) else (some 0)) = some r := by rw [if_neg (show ¬ (false = true) by decide)] at H; exact H
                                                 clear H
                                                 have H := H1
                                                 clear H1
                                                 by_cases c60 : a0 = 8203
                                                 · rw [if_pos c60] at H
                                                   have c60b0 : (a0 == 8203) = true := beq_iff_eq.mpr c60
                                                   have c60b1 : (a0 != 8203) = false := bne_eq_false_iff_eq.mpr c60
                                                   clear c60
                                                   obtain rfl := Option.some.inj H
                                                   go_wp2_with (first | (go_at_call 54; (with_reducible refine (spec_l12In.calls a0 166 169 false _ A54.out).mono ?_); rintro e w' ⟨rfl, ⟨nd, rfl⟩⟩) | (go_at_call 54; (with_reducible refine (spec_l12In.calls a0 171 177 false _ A56.out).mono ?_); rintro e w' ⟨rfl, ⟨nd, rfl⟩⟩) | (go_at_call 54; (with_reducible refine (spec_l12In.calls a0 8208 8231 false _ A58.out).mono ?_); rintro e w' ⟨rfl, ⟨nd, rfl⟩⟩))
                                                   go_ret
                                                   exact ⟨by first | rfl | (simp; done) | (simp [*]; done), by repeat (first | exact Drawn0.refl _ | apply Drawn0.step)⟩
                                                 · rw [if_neg c60] at H
                                                   have c60b0 : (a0 == 8203) = false := beq_eq_false_iff_ne.mpr c60
                                                   have c60b1 : (a0 != 8203) = true := bne_iff_ne.mpr c60
                                                   obtain rfl := Option.some.inj H
                                                   go_wp2_with (first | (go_at_call 54; (with_reducible refine (spec_l12In.calls a0 166 169 false _ A54.out).mono ?_); rintro e w' ⟨rfl, ⟨nd, rfl⟩⟩) | (go_at_call 54; (with_reducible refine (spec_l12In.calls a0 171 177 false _ A56.out).mono ?_); rintro e w' ⟨rfl, ⟨nd, rfl⟩⟩) | (go_at_call 54; (with_reducible refine (spec_l12In.calls a0 8208 8231 false _ A58.out).mono ?_); rintro e w' ⟨rfl, ⟨nd, rfl⟩⟩))
                                                   go_ret
                                                   exact ⟨by first | rfl | (simp; done) | (simp [*]; done), by repeat (first | exact Drawn0.refl _ | apply Drawn0.step)⟩
end Go.Proofs.Ytpknhndanbgkmaa.MFnLevels
