-- Written by this session's own program (wip/gen/myprint.py).
import Derived.Test.YtpknhndanbgkmaaMFnSharesx0
namespace Go.Proofs.Ytpknhndanbgkmaa.MFnShares
open Go.RowKit Go.Proofs.YtpknhndanbgkmaaW.PrintWords Go.Proofs.YtpknhndanbgkmaaW.PrintLast Go.Proofs.YtpknhndanbgkmaaW.PrintMore
attribute [local go_sem] max2_int min2_int max_two min_two max_three min_three max_four min_four   -- for this text's walks alone
set_option linter.unusedVariables false
set_option linter.unusedSimpArgs false
def laws_big.f (l0 : List Int) : Option (Bool) := some (decide ((l0.length : Int) > 1048576))
set_option maxHeartbeats 8000000 in
set_option maxRecDepth 100000 in
theorem laws_big.calls (A0 : Option Addr) (c0 : Nat) (l0 : List Int) (r : Bool) (w : World) (hr0 : Kd.C (Kd.int .u8) w A0 l0.length l0) (hc0 : l0.length ≤ c0) (h : laws_big.f l0 = some r) :
 Calls Try.prog 20 #[.slice A0 l0.length c0] w fun e w' => e = .returned (.bool r) ∧ Drawn0 w w' := by
 have HR0 := aMk hr0
 have HC0 := aMk hc0
 clear hr0 hc0
 have H : (some (decide ((l0.length : Int) > 1048576))) = some r := h
 clear h
 obtain rfl := Option.some.inj H
 go_enter Try.func20, Try.ntmps20
 go_wp2
 go_ret
 exact ⟨by first | rfl | (simp; done) | (simp [*]; done), by repeat (first | exact Drawn0.refl _ | apply Drawn0.step)⟩
def laws_sameInts.l0 : Nat → List Int → List Int → Int → Option (Bool)
 | 0, _, _, _ => none
 | k + 1, x0, x1, x5 => if x5 < (x0.length : Int) then (if 0 ≤ x5 then (if x5 < (x1.length : Int) then (if (rd x0 x5) = (rd x1 x5) then (laws_sameInts.l0 k x0 x1 (wrap64 (x5 + 1))) else (some false)) else (none)) else (none)) else (some true)
def laws_sameInts.f (k : Nat) (l0 : List Int) (l1 : List Int) : Option (Bool) := if (l0.length : Int) = (l1.length : Int) then (laws_sameInts.l0 k l0 l1 0) else (some false)
set_option maxHeartbeats 8000000 in
set_option maxRecDepth 100000 in
theorem laws_sameInts.calls (k : Nat) (A0 : Option Addr) (c0 : Nat) (l0 : List Int) (A1 : Option Addr) (c1 : Nat) (l1 : List Int) (r : Bool) (w : World) (hr0 : Kd.C (Kd.int .i64) w A0 l0.length l0) (hc0 : l0.length ≤ c0) (hr1 : Kd.C (Kd.int .i64) w A1 l1.length l1) (hc1 : l1.length ≤ c1) (h : laws_sameInts.f k l0 l1 = some r) :
 Calls Try.prog 23 #[.slice A0 l0.length c0, .slice A1 l1.length c1] w fun e w' => e = .returned (.bool r) ∧ Drawn0 w w' := by
 have HR0 := aMk hr0
 have HC0 := aMk hc0
 clear hr0 hc0
 have HR1 := aMk hr1
 have HC1 := aMk hc1
 clear hr1 hc1
 have H : (if (l0.length : Int) = (l1.length : Int) then (laws_sameInts.l0 k l0 l1 0) else (some false)) = some r := h
 clear h
 by_cases c3 : (l0.length : Int) = (l1.length : Int)
 · rw [if_pos c3] at H
   have c3b0 : ((l0.length : Int) == (l1.length : Int)) = true := beq_iff_eq.mpr c3
   have c3b1 : ((l0.length : Int) != (l1.length : Int)) = false := bne_eq_false_iff_eq.mpr c3
   have c3b2 : (l0.length == l1.length) = true := by first | simpa using c3 | (simp at c3 ⊢; omega)
   clear c3
   have H' := aMk H
   clear H
   go_enter Try.func23, Try.ntmps23
   go_wp2
   repeat (go_quiet (fail); try go_wp2)
   go_loopg [5] k (fun kq v5 w' => ∃ (x5_1 : Int), v5 = .int .i64 x5_1 ∧ Aside0 (laws_sameInts.l0 kq l0 l1 x5_1 = some r) ∧ Aside0 (kq ≤ k) ∧ Drawn0 w w')
   case atStart => exact ⟨(0), (by first | rfl | (simp; done) | (simp [*]; done)), H', ⟨Nat.le_refl _⟩, by repeat (first | exact Drawn0.refl _ | apply Drawn0.step)⟩
   case round =>
    clear H'
    try clear c1
    try clear c2
    try clear p2
    try clear c3
    try clear c3b0
    try clear c3b1
    try clear c3b2
    obtain ⟨x5_1, rfl, HA, HK1, ⟨m1, rfl⟩⟩ := hrel
    cases gk with
    | zero => exact absurd HA.out (by simp [laws_sameInts.l0])
    | succ k1 =>
     have H := HA.out
     clear HA
     simp only [laws_sameInts.l0] at H
     by_cases c4 : x5_1 < (l0.length : Int)
     · rw [if_pos c4] at H
       have c4b0 : decide (x5_1 < (l0.length : Int)) = true := decide_eq_true c4
       clear c4
       by_cases c5 : 0 ≤ x5_1
       · rw [if_pos c5] at H
         have c5b0 : decide (0 ≤ x5_1) = true := decide_eq_true c5
         clear c5
         by_cases c6 : x5_1 < (l1.length : Int)
         · rw [if_pos c6] at H
           have c6b0 : decide (x5_1 < (l1.length : Int)) = true := decide_eq_true c6
           clear c6
           by_cases c7 : (rd l0 x5_1) = (rd l1 x5_1)
           · rw [if_pos c7] at H
             have c7b0 : ((rd l0 x5_1) == (rd l1 x5_1)) = true := beq_iff_eq.mpr c7
             have c7b1 : ((rd l0 x5_1) != (rd l1 x5_1)) = false := bne_eq_false_iff_eq.mpr c7
             clear c7
             have H' := aMk H
             clear H
             have p101 : 0 ≤ (x5_1 : Int) := oDt (by first | (with_reducible assumption) | assumption)
             have q101 : x5_1 < (l0.length : Int) := oDt (by first | (with_reducible assumption) | assumption)
             obtain ⟨ad101, e101, hx101_0⟩ := Kd.at_int HR0.out x5_1 p101 q101
             cases e101
             replace p101 := eq_true p101
             replace q101 := eq_true q101
             have p102 : 0 ≤ (x5_1 : Int) := oDt (by first | (with_reducible assumption) | assumption)
             have q102 : x5_1 < (l1.length : Int) := oDt (by first | (with_reducible assumption) | assumption)
             obtain ⟨ad102, e102, hx102_0⟩ := Kd.at_int HR1.out x5_1 p102 q102
             cases e102
             replace p102 := eq_true p102
             replace q102 := eq_true q102
             go_wp2
             repeat (go_quiet (fail); try go_wp2)
             go_roundg k1
             case measure => have := HK1.out; omega
             case rel => exact ⟨(wrap64 (x5_1 + 1)), (by first | rfl | (simp; done) | (simp [*]; done)), H', ⟨by have := HK1.out; omega⟩, by repeat (first | exact Drawn0.refl _ | apply Drawn0.step)⟩
           · rw [if_neg c7] at H
             have c7b0 : ((rd l0 x5_1) == (rd l1 x5_1)) = false := beq_eq_false_iff_ne.mpr c7
             have c7b1 : ((rd l0 x5_1) != (rd l1 x5_1)) = true := bne_iff_ne.mpr c7
             obtain rfl := Option.some.inj H
             have p101 : 0 ≤ (x5_1 : Int) := oDt (by first | (with_reducible assumption) | assumption)
             have q101 : x5_1 < (l0.length : Int) := oDt (by first | (with_reducible assumption) | assumption)
             obtain ⟨ad101, e101, hx101_0⟩ := Kd.at_int HR0.out x5_1 p101 q101
             cases e101
             replace p101 := eq_true p101
             replace q101 := eq_true q101
             have p102 : 0 ≤ (x5_1 : Int) := oDt (by first | (with_reducible assumption) | assumption)
             have q102 : x5_1 < (l1.length : Int) := oDt (by first | (with_reducible assumption) | assumption)
             obtain ⟨ad102, e102, hx102_0⟩ := Kd.at_int HR1.out x5_1 p102 q102
             cases e102
             replace p102 := eq_true p102
             replace q102 := eq_true q102
             go_wp2
             repeat (go_quiet (fail); try go_wp2)
             go_ret
             exact ⟨by first | rfl | (simp; done) | (simp [*]; done), by repeat (first | exact Drawn0.refl _ | apply Drawn0.step)⟩
         · rw [if_neg c6] at H
           exact absurd H (by simp)
       · rw [if_neg c5] at H
         exact absurd H (by simp)
     · rw [if_neg c4] at H
       have c4b0 : decide (x5_1 < (l0.length : Int)) = false := decide_eq_false c4
       clear c4
       obtain rfl := Option.some.inj H
       go_wp2
       repeat (go_quiet (fail); try go_wp2)
       go_ret
       exact ⟨by first | rfl | (simp; done) | (simp [*]; done), by repeat (first | exact Drawn0.refl _ | apply Drawn0.step)⟩
 · rw [if_neg c3] at H
   have c3b0 : ((l0.length : Int) == (l1.length : Int)) = false := beq_eq_false_iff_ne.mpr c3
   have c3b1 : ((l0.length : Int) != (l1.length : Int)) = true := bne_iff_ne.mpr c3
   have c3b2 : (l0.length == l1.length) = false := by first | simpa using c3 | (simp at c3 ⊢; omega)
   obtain rfl := Option.some.inj H
   go_enter Try.func23, Try.ntmps23
   go_wp2
   repeat (go_quiet (fail); try go_wp2)
   go_ret
   exact ⟨by first | rfl | (simp; done) | (simp [*]; done), by repeat (first | exact Drawn0.refl _ | apply Drawn0.step)⟩
def spec_l12In.f (a0 : Int) (a1 : Int) (a2 : Int) : Option (Bool) := if a0 ≥ a1 then (some (decide (a0 ≤ a2))) else (some false)
set_option maxHeartbeats 8000000 in
set_option maxRecDepth 100000 in
theorem spec_l12In.calls (a0 : Int) (a1 : Int) (a2 : Int) (r : Bool) (w : World) (h : spec_l12In.f a0 a1 a2 = some r) :
 Calls Try.prog 54 #[.int .i64 a0, .int .i64 a1, .int .i64 a2] w fun e w' => e = .returned (.bool r) ∧ Drawn0 w w' := by
 have H : (if a0 ≥ a1 then (some (decide (a0 ≤ a2))) else (some false)) = some r := h
 clear h
 by_cases c4 : a0 ≥ a1
 · rw [if_pos c4] at H
   have c4b0 : decide (a1 ≤ a0) = true := decide_eq_true c4
   clear c4
   obtain rfl := Option.some.inj H
   go_enter Try.func54, Try.ntmps54
   go_wp2
   go_ret
   exact ⟨by first | rfl | (simp; done) | (simp [*]; done), by repeat (first | exact Drawn0.refl _ | apply Drawn0.step)⟩
 · rw [if_neg c4] at H
   have c4b0 : decide (a1 ≤ a0) = false := decide_eq_false c4
   clear c4
   obtain rfl := Option.some.inj H
   go_enter Try.func54, Try.ntmps54
   go_wp2
   go_ret
   exact ⟨by first | rfl | (simp; done) | (simp [*]; done), by repeat (first | exact Drawn0.refl _ | apply Drawn0.step)⟩
mutual
def spec_l16ItemsOk.j0 : Nat → List (S66) → Bool → Option (Bool)
 | 0, _, _ => none
 | k + 1, x0, x14 => if x14 = true then (some false) else (spec_l16ItemsOk.l0 k x0 0)
def spec_l16ItemsOk.l0 : Nat → List (S66) → Int → Option (Bool)
 | 0, _, _ => none
 | k + 1, x0, x5 => if x5 < (x0.length : Int) then (if 0 ≤ x5 then ((spec_l12In.f ((rd_T66 x0 x5).f0) 0 100000000).bind fun t106 => (if t106 = true then ((spec_l12In.f ((rd_T66 x0 x5).f3) 0 100000000).bind fun t107 => (if t107 = true then ((spec_l12In.f ((rd_T66 x0 x5).f4) (-1) 100000000).bind fun t108 => (if t108 = true then (spec_l16ItemsOk.l0 k x0 (wrap64 (x5 + 1))) else (some false))) else (some false))) else (some false))) else (none)) else (some true)
end
def spec_l16ItemsOk.f (k : Nat) (l0 : List (S66)) (a1 : Int) : Option (Bool) := if (l0.length : Int) > 400 then (spec_l16ItemsOk.j0 k l0 true) else ((spec_l12In.f a1 0 100000000).bind fun t103 => (spec_l16ItemsOk.j0 k l0 (!t103)))
set_option maxHeartbeats 8000000 in
set_option maxRecDepth 100000 in
theorem spec_l16ItemsOk.calls (k : Nat) (A0 : Option Addr) (c0 : Nat) (l0 : List (S66)) (a1 : Int) (r : Bool) (w : World) (hr0 : Kd.C k66 w A0 l0.length l0) (hc0 : l0.length ≤ c0) (h : spec_l16ItemsOk.f k l0 a1 = some r) :
 Calls Try.prog 79 #[.slice A0 l0.length c0, .int .i64 a1] w fun e w' => e = .returned (.bool r) ∧ Below w.heap.size w w' := by
 have hu66 := Try.underlying66
 have HR0 := aMk hr0
 have HC0 := aMk hc0
 clear hr0 hc0
 have HB := aMk (Below.refl w.heap.size w)
 have H : (if (l0.length : Int) > 400 then (spec_l16ItemsOk.j0 k l0 true) else ((spec_l12In.f a1 0 100000000).bind fun t103 => (spec_l16ItemsOk.j0 k l0 (!t103)))) = some r := h
 clear h
 have HC3 := aMk H
 clear H
 go_enter Try.func79, Try.ntmps79
 go_upto_region 1 with (fail)
 go_cut [14] (fun v14 wc => ∃ (kq : Nat) (x14_2 : Bool), v14 = .bool x14_2 ∧ Aside0 (spec_l16ItemsOk.j0 kq l0 x14_2 = some r) ∧ Aside0 (kq ≤ k) ∧ Aside0 (Below w.heap.size w wc))
 case first =>
  have H := HC3.out
  clear HC3
  by_cases c4 : (l0.length : Int) > 400
  · rw [if_pos c4] at H
    have c4b0 : decide (400 < (l0.length : Int)) = true := decide_eq_true c4
    have c4b1 : decide (400 < l0.length) = true := decide_eq_true (by omega)
    clear c4
    (first | rw [c4b0] | (simp only [i64_w, i32_w]; rw [c4b0]) | skip)
    have H' := aMk H
    clear H
    go_wp2
    go_meet
    case rel => exact ⟨_, (true), (by first | rfl | (simp; done) | (simp [*]; done)), H', ⟨by first | omega | exact Nat.le_refl _⟩, ⟨by repeat (first | (with_reducible first | exact HB.out | apply bAl | apply bDn | apply bD1) | exact HB.out)⟩⟩
  · rw [if_neg c4] at H
    have c4b0 : decide (400 < (l0.length : Int)) = false := decide_eq_false c4
    have c4b1 : decide (400 < l0.length) = false := decide_eq_false (by omega)
    clear c4
    (first | rw [c4b0] | (simp only [i64_w, i32_w]; rw [c4b0]) | skip)
    replace H := oBm H
    obtain ⟨t103, A50, H⟩ := H
    replace H : (spec_l16ItemsOk.j0 k l0 (!t103)) = some r := H
    have A5 := aMk A50
    clear A50
    have H' := aMk H
    clear H
    go_wp2_with (first | (go_at_call 54; (with_reducible refine (spec_l12In.calls a1 0 100000000 t103 _ A5.out).mono ?_); rintro e w' ⟨rfl, ⟨nd, rfl⟩⟩))
    go_meet
    case rel => exact ⟨_, (!t103), (by first | rfl | (simp; done) | (simp [*]; done)), H', ⟨by first | omega | exact Nat.le_refl _⟩, ⟨by repeat (first | (with_reducible first | exact HB.out | apply bAl | apply bDn | apply bD1) | exact HB.out)⟩⟩
 case rest =>
  clear HC3
  try clear p2
  try clear c4
  try clear c4b0
  try clear c4b1
  obtain ⟨kq, x14_2, rfl, HA, HJ2, HB⟩ := hcut
  cases kq with
  | zero => exact absurd HA.out (by simp [spec_l16ItemsOk.j0])
  | succ kj2 =>
   have H := HA.out
   clear HA
   simp only [spec_l16ItemsOk.j0] at H
   by_cases c6 : x14_2 = true
   · subst c6
     have H1 : (some false) = some r := by rw [if_pos rfl] at H; exact H
     clear H
     have H := H1
     clear H1
     obtain rfl := Option.some.inj H
     go_wp2
     go_ret
     exact ⟨by first | rfl | (simp [errW_none, errW_some] <;> rfl) | (simp [*, errW_none, errW_some] <;> rfl), by repeat (first | (with_reducible first | exact HB.out | apply bAl | apply bDn | apply bD1) | exact HB.out)⟩
   · replace c6 := Bool.eq_false_iff.mpr c6
     subst c6
     have H1 : (spec_l16ItemsOk.l0 kj2 l0 0) = some r := by rw [if_neg (show ¬ (false = true) by decide)] at H; exact H
     clear H
     have H := H1
     clear H1
     have H' := aMk H
     clear H
     go_wp2
     go_loopg [5] kj2 (fun kq v5 w' => ∃ (x5_2 : Int), v5 = .int .i64 x5_2 ∧ Aside0 (spec_l16ItemsOk.l0 kq l0 x5_2 = some r) ∧ Aside0 (kq ≤ kj2) ∧ Aside0 (Below w.heap.size w w'))
     case atStart => exact ⟨(0), (by first | rfl | (simp; done) | (simp [*]; done)), H', ⟨Nat.le_refl _⟩, ⟨by repeat (first | (with_reducible first | exact HB.out | apply bAl | apply bDn | apply bD1) | exact HB.out)⟩⟩
     case round =>
      clear H'
      try clear p2
      try clear c4
      try clear c4b0
      try clear c4b1
      try clear c6
      try clear p2
      obtain ⟨x5_2, rfl, HA, HK2, HB⟩ := hrel
      cases gk with
      | zero => exact absurd HA.out (by simp [spec_l16ItemsOk.l0])
      | succ k2 =>
       have H := HA.out
       clear HA
       simp only [spec_l16ItemsOk.l0] at H
       by_cases c7 : x5_2 < (l0.length : Int)
       · rw [if_pos c7] at H
         have c7b0 : decide (x5_2 < (l0.length : Int)) = true := decide_eq_true c7
         clear c7
         by_cases c8 : 0 ≤ x5_2
         · rw [if_pos c8] at H
           have c8b0 : decide (0 ≤ x5_2) = true := decide_eq_true c8
           clear c8
           replace H := oBm H
           obtain ⟨t106, A90, H⟩ := H
           replace H : (if t106 = true then ((spec_l12In.f ((rd_T66 l0 x5_2).f3) 0 100000000).bind fun t107 => (if t107 = true then ((spec_l12In.f ((rd_T66 l0 x5_2).f4) (-1) 100000000).bind fun t108 => (if t108 = true then (spec_l16ItemsOk.l0 k2 l0 (wrap64 (x5_2 + 1))) else (some false))) else (some false))) else (some false)) = some r := H
           have A9 := aMk A90
           clear A90
           by_cases c10 : t106 = true
           · subst c10
             have H1 : ((spec_l12In.f ((rd_T66 l0 x5_2).f3) 0 100000000).bind fun t107 => (if t107 = true then ((spec_l12In.f ((rd_T66 l0 x5_2).f4) (-1) 100000000).bind fun t108 => (if t108 = true then (spec_l16ItemsOk.l0 k2 l0 (wrap64 (x5_2 + 1))) else (some false))) else (some false))) = some r := by rw [if_pos rfl] at H; exact H
             clear H
             have H := H1
             clear H1
             replace H := oBm H
             obtain ⟨t107, A110, H⟩ := H
             replace H : (if t107 = true then ((spec_l12In.f ((rd_T66 l0 x5_2).f4) (-1) 100000000).bind fun t108 => (if t108 = true then (spec_l16ItemsOk.l0 k2 l0 (wrap64 (x5_2 + 1))) else (some false))) else (some false)) = some r := H
             have A11 := aMk A110
             clear A110
             by_cases c12 : t107 = true
             · subst c12
               have H1 : ((spec_l12In.f ((rd_T66 l0 x5_2).f4) (-1) 100000000).bind fun t108 => (if t108 = true then (spec_l16ItemsOk.l0 k2 l0 (wrap64 (x5_2 + 1))) else (some false))) = some r := by rw [if_pos rfl] at H; exact H
               clear H
               have H := H1
               clear H1
               replace H := oBm H
               obtain ⟨t108, A130, H⟩ := H
               replace H : (if t108 = true then (spec_l16ItemsOk.l0 k2 l0 (wrap64 (x5_2 + 1))) else (some false)) = some r := H
               have A13 := aMk A130
               clear A130
               by_cases c14 : t108 = true
               · subst c14
                 have H1 : (spec_l16ItemsOk.l0 k2 l0 (wrap64 (x5_2 + 1))) = some r := by rw [if_pos rfl] at H; exact H
                 clear H
                 have H := H1
                 clear H1
                 have H' := aMk H
                 clear H
                 have p104 : 0 ≤ (x5_2 : Int) := oDt (by first | (with_reducible assumption) | assumption)
                 have q104 : x5_2 < (l0.length : Int) := oDt (by first | (with_reducible assumption) | assumption)
                 obtain ⟨ad104, e104, hx104_0, hx104_1, hx104_2, hx104_3, hx104_4⟩ := at_T66 HR0.out x5_2 p104 q104
                 cases e104
                 replace hx104_0 := (HB.out.cell (wBl w _ hx104_0)).trans hx104_0
                 replace hx104_1 := (HB.out.cell (wBl w _ hx104_1)).trans hx104_1
                 replace hx104_2 := (HB.out.cell (wBl w _ hx104_2)).trans hx104_2
                 replace hx104_3 := (HB.out.cell (wBl w _ hx104_3)).trans hx104_3
                 replace hx104_4 := (HB.out.cell (wBl w _ hx104_4)).trans hx104_4
                 replace p104 := eq_true p104
                 replace q104 := eq_true q104
                 go_wp2_with (first | ((with_reducible refine gate_dst (N := 6) rfl ?_); refine box_event ?hg (N := 6) ?hd (cs := #[.int .i64 0, .int .i64 0, .int .i64 0, .int .i64 0, .int .i64 0]) (t := 66) ?hr ?_; (case hd => rfl); (case hg => rfl); (case hr => first | (go_simp; done) | (go_simp; rfl)); intro gb105 hg w15 hbox hb; have n0_ := aMk (below_step (by repeat (first | (with_reducible first | exact HB.out | apply bAl | apply bDn | apply bD1) | exact HB.out)) hb); have n1_ := aMk (hbox); have n2_ := aMk ((by rw [hg]; exact (below_size (by repeat (first | (with_reducible first | exact HB.out | apply bAl | apply bDn | apply bD1) | exact HB.out))) : w.heap.size ≤ gb105)); have n3_ := aMk ((by rw [hg]; exact (below_size (by repeat (first | (with_reducible first | exact HB.out | apply bAl | apply bDn | apply bD1) | exact HB.out))) : w.heap.size ≤ gb105)); clear HB; have HB := n0_; have BK105 := n1_; have GW105 := n2_; have GE105 := n3_; clear n0_ n1_ n2_ n3_; clear hb hbox hg; have hcz16_0 : w15.cell? ⟨gb105, 0, none⟩ = some (.int .i64 0) := (bCe BK105.out 0).trans rfl; have hcz16_1 : w15.cell? ⟨gb105, 1, none⟩ = some (.int .i64 0) := (bCe BK105.out 1).trans rfl; have hcz16_2 : w15.cell? ⟨gb105, 2, none⟩ = some (.int .i64 0) := (bCe BK105.out 2).trans rfl; have hcz16_3 : w15.cell? ⟨gb105, 3, none⟩ = some (.int .i64 0) := (bCe BK105.out 3).trans rfl; have hcz16_4 : w15.cell? ⟨gb105, 4, none⟩ = some (.int .i64 0) := (bCe BK105.out 4).trans rfl; have hfz16_0 := bFr BK105.out 0; have hfz16_1 := bFr BK105.out 1; have hfz16_2 := bFr BK105.out 2; have hfz16_3 := bFr BK105.out 3; have hfz16_4 := bFr BK105.out 4) | ((with_reducible refine gate_callee (f := 54) rfl ?_); refine goesL_ (some 27) rfl rfl Try.func54 (by kernel_rfl) rfl #[.int .i64 ((rd_T66 l0 x5_2).f0), .int .i64 0, .int .i64 100000000] rfl (by (try simp only [List.map_toArray, List.map_cons, List.map_nil]); first | done | rfl | (simp only [List.length_drop, List.length_take]; rfl)) ?_; (with_reducible refine (spec_l12In.calls ((rd_T66 l0 x5_2).f0) 0 100000000 true _ A9.out).mono ?_); rintro e w' ⟨rfl, ⟨nd, rfl⟩⟩; refine ⟨_, rfl, ?_⟩) | (go_at_call 54; (with_reducible refine (spec_l12In.calls ((rd_T66 l0 x5_2).f3) 0 100000000 true _ A11.out).mono ?_); rintro e w' ⟨rfl, ⟨nd, rfl⟩⟩) | (go_at_call 54; (with_reducible refine (spec_l12In.calls ((rd_T66 l0 x5_2).f4) (-1) 100000000 true _ A13.out).mono ?_); rintro e w' ⟨rfl, ⟨nd, rfl⟩⟩))
                 go_roundg k2
                 case measure => have := HJ2.out; have := HK2.out; omega
                 case rel => exact ⟨(wrap64 (x5_2 + 1)), (by first | rfl | (simp; done) | (simp [*]; done)), H', ⟨by have := HJ2.out; have := HK2.out; omega⟩, ⟨by repeat (first | (with_reducible first | exact HB.out | apply bAl | apply bDn | apply bD1 | refine bSe ?_ GE105.out) | exact HB.out)⟩⟩
               · replace c14 := Bool.eq_false_iff.mpr c14
                 subst c14
                 have H1 : (some false) = some r := by rw [if_neg (show ¬ (false = true) by decide)] at H; exact H
                 clear H
                 have H := H1
                 clear H1
                 obtain rfl := Option.some.inj H
                 have p104 : 0 ≤ (x5_2 : Int) := oDt (by first | (with_reducible assumption) | assumption)
                 have q104 : x5_2 < (l0.length : Int) := oDt (by first | (with_reducible assumption) | assumption)
                 obtain ⟨ad104, e104, hx104_0, hx104_1, hx104_2, hx104_3, hx104_4⟩ := at_T66 HR0.out x5_2 p104 q104
                 cases e104
                 replace hx104_0 := (HB.out.cell (wBl w _ hx104_0)).trans hx104_0
                 replace hx104_1 := (HB.out.cell (wBl w _ hx104_1)).trans hx104_1
                 replace hx104_2 := (HB.out.cell (wBl w _ hx104_2)).trans hx104_2
                 replace hx104_3 := (HB.out.cell (wBl w _ hx104_3)).trans hx104_3
                 replace hx104_4 := (HB.out.cell (wBl w _ hx104_4)).trans hx104_4
                 replace p104 := eq_true p104
                 replace q104 := eq_true q104
                 go_wp2_with (first | ((with_reducible refine gate_dst (N := 6) rfl ?_); refine box_event ?hg (N := 6) ?hd (cs := #[.int .i64 0, .int .i64 0, .int .i64 0, .int .i64 0, .int .i64 0]) (t := 66) ?hr ?_; (case hd => rfl); (case hg => rfl); (case hr => first | (go_simp; done) | (go_simp; rfl)); intro gb105 hg w17 hbox hb; have n0_ := aMk (below_step (by repeat (first | (with_reducible first | exact HB.out | apply bAl | apply bDn | apply bD1) | exact HB.out)) hb); have n1_ := aMk (hbox); have n2_ := aMk ((by rw [hg]; exact (below_size (by repeat (first | (with_reducible first | exact HB.out | apply bAl | apply bDn | apply bD1) | exact HB.out))) : w.heap.size ≤ gb105)); have n3_ := aMk ((by rw [hg]; exact (below_size (by repeat (first | (with_reducible first | exact HB.out | apply bAl | apply bDn | apply bD1) | exact HB.out))) : w.heap.size ≤ gb105)); clear HB; have HB := n0_; have BK105 := n1_; have GW105 := n2_; have GE105 := n3_; clear n0_ n1_ n2_ n3_; clear hb hbox hg; have hcz18_0 : w17.cell? ⟨gb105, 0, none⟩ = some (.int .i64 0) := (bCe BK105.out 0).trans rfl; have hcz18_1 : w17.cell? ⟨gb105, 1, none⟩ = some (.int .i64 0) := (bCe BK105.out 1).trans rfl; have hcz18_2 : w17.cell? ⟨gb105, 2, none⟩ = some (.int .i64 0) := (bCe BK105.out 2).trans rfl; have hcz18_3 : w17.cell? ⟨gb105, 3, none⟩ = some (.int .i64 0) := (bCe BK105.out 3).trans rfl; have hcz18_4 : w17.cell? ⟨gb105, 4, none⟩ = some (.int .i64 0) := (bCe BK105.out 4).trans rfl; have hfz18_0 := bFr BK105.out 0; have hfz18_1 := bFr BK105.out 1; have hfz18_2 := bFr BK105.out 2; have hfz18_3 := bFr BK105.out 3; have hfz18_4 := bFr BK105.out 4) | ((with_reducible refine gate_callee (f := 54) rfl ?_); refine goesL_ (some 27) rfl rfl Try.func54 (by kernel_rfl) rfl #[.int .i64 ((rd_T66 l0 x5_2).f0), .int .i64 0, .int .i64 100000000] rfl (by (try simp only [List.map_toArray, List.map_cons, List.map_nil]); first | done | rfl | (simp only [List.length_drop, List.length_take]; rfl)) ?_; (with_reducible refine (spec_l12In.calls ((rd_T66 l0 x5_2).f0) 0 100000000 true _ A9.out).mono ?_); rintro e w' ⟨rfl, ⟨nd, rfl⟩⟩; refine ⟨_, rfl, ?_⟩) | (go_at_call 54; (with_reducible refine (spec_l12In.calls ((rd_T66 l0 x5_2).f3) 0 100000000 true _ A11.out).mono ?_); rintro e w' ⟨rfl, ⟨nd, rfl⟩⟩) | (go_at_call 54; (with_reducible refine (spec_l12In.calls ((rd_T66 l0 x5_2).f4) (-1) 100000000 false _ A13.out).mono ?_); rintro e w' ⟨rfl, ⟨nd, rfl⟩⟩))
                 go_ret
                 exact ⟨by first | rfl | (simp [errW_none, errW_some] <;> rfl) | (simp [*, errW_none, errW_some] <;> rfl), by repeat (first | (with_reducible first | exact HB.out | apply bAl | apply bDn | apply bD1 | refine bSe ?_ GE105.out) | exact HB.out)⟩
             · replace c12 := Bool.eq_false_iff.mpr c12
               subst c12
               have H1 : (some false) = some r := by rw [if_neg (show ¬ (false = true) by decide)] at H; exact H
               clear H
               have H := H1
               clear H1
               obtain rfl := Option.some.inj H
               have p104 : 0 ≤ (x5_2 : Int) := oDt (by first | (with_reducible assumption) | assumption)
               have q104 : x5_2 < (l0.length : Int) := oDt (by first | (with_reducible assumption) | assumption)
               obtain ⟨ad104, e104, hx104_0, hx104_1, hx104_2, hx104_3, hx104_4⟩ := at_T66 HR0.out x5_2 p104 q104
               cases e104
               replace hx104_0 := (HB.out.cell (wBl w _ hx104_0)).trans hx104_0
               replace hx104_1 := (HB.out.cell (wBl w _ hx104_1)).trans hx104_1
               replace hx104_2 := (HB.out.cell (wBl w _ hx104_2)).trans hx104_2
               replace hx104_3 := (HB.out.cell (wBl w _ hx104_3)).trans hx104_3
               replace hx104_4 := (HB.out.cell (wBl w _ hx104_4)).trans hx104_4
               replace p104 := eq_true p104
               replace q104 := eq_true q104
               go_wp2_with (first | ((with_reducible refine gate_dst (N := 6) rfl ?_); refine box_event ?hg (N := 6) ?hd (cs := #[.int .i64 0, .int .i64 0, .int .i64 0, .int .i64 0, .int .i64 0]) (t := 66) ?hr ?_; (case hd => rfl); (case hg => rfl); (case hr => first | (go_simp; done) | (go_simp; rfl)); intro gb105 hg w19 hbox hb; have n0_ := aMk (below_step (by repeat (first | (with_reducible first | exact HB.out | apply bAl | apply bDn | apply bD1) | exact HB.out)) hb); have n1_ := aMk (hbox); have n2_ := aMk ((by rw [hg]; exact (below_size (by repeat (first | (with_reducible first | exact HB.out | apply bAl | apply bDn | apply bD1) | exact HB.out))) : w.heap.size ≤ gb105)); have n3_ := aMk ((by rw [hg]; exact (below_size (by repeat (first | (with_reducible first | exact HB.out | apply bAl | apply bDn | apply bD1) | exact HB.out))) : w.heap.size ≤ gb105)); clear HB; have HB := n0_; have BK105 := n1_; have GW105 := n2_; have GE105 := n3_; clear n0_ n1_ n2_ n3_; clear hb hbox hg; have hcz20_0 : w19.cell? ⟨gb105, 0, none⟩ = some (.int .i64 0) := (bCe BK105.out 0).trans rfl; have hcz20_1 : w19.cell? ⟨gb105, 1, none⟩ = some (.int .i64 0) := (bCe BK105.out 1).trans rfl; have hcz20_2 : w19.cell? ⟨gb105, 2, none⟩ = some (.int .i64 0) := (bCe BK105.out 2).trans rfl; have hcz20_3 : w19.cell? ⟨gb105, 3, none⟩ = some (.int .i64 0) := (bCe BK105.out 3).trans rfl; have hcz20_4 : w19.cell? ⟨gb105, 4, none⟩ = some (.int .i64 0) := (bCe BK105.out 4).trans rfl; have hfz20_0 := bFr BK105.out 0; have hfz20_1 := bFr BK105.out 1; have hfz20_2 := bFr BK105.out 2; have hfz20_3 := bFr BK105.out 3; have hfz20_4 := bFr BK105.out 4) | ((with_reducible refine gate_callee (f := 54) rfl ?_); refine goesL_ (some 27) rfl rfl Try.func54 (by kernel_rfl) rfl #[.int .i64 ((rd_T66 l0 x5_2).f0), .int .i64 0, .int .i64 100000000] rfl (by (try simp only [List.map_toArray, List.map_cons, List.map_nil]); first | done | rfl | (simp only [List.length_drop, List.length_take]; rfl)) ?_; (with_reducible refine (spec_l12In.calls ((rd_T66 l0 x5_2).f0) 0 100000000 true _ A9.out).mono ?_); rintro e w' ⟨rfl, ⟨nd, rfl⟩⟩; refine ⟨_, rfl, ?_⟩) | (go_at_call 54; (with_reducible refine (spec_l12In.calls ((rd_T66 l0 x5_2).f3) 0 100000000 false _ A11.out).mono ?_); rintro e w' ⟨rfl, ⟨nd, rfl⟩⟩))
               go_ret
               exact ⟨by first | rfl | (simp [errW_none, errW_some] <;> rfl) | (simp [*, errW_none, errW_some] <;> rfl), by repeat (first | (with_reducible first | exact HB.out | apply bAl | apply bDn | apply bD1 | refine bSe ?_ GE105.out) | exact HB.out)⟩
           · replace c10 := Bool.eq_false_iff.mpr c10
             subst c10
             have H1 : (some false) = some r := by rw [if_neg (show ¬ (false = true) by decide)] at H; exact H
             clear H
             have H := H1
             clear H1
             obtain rfl := Option.some.inj H
             have p104 : 0 ≤ (x5_2 : Int) := oDt (by first | (with_reducible assumption) | assumption)
             have q104 : x5_2 < (l0.length : Int) := oDt (by first | (with_reducible assumption) | assumption)
             obtain ⟨ad104, e104, hx104_0, hx104_1, hx104_2, hx104_3, hx104_4⟩ := at_T66 HR0.out x5_2 p104 q104
             cases e104
             replace hx104_0 := (HB.out.cell (wBl w _ hx104_0)).trans hx104_0
             replace hx104_1 := (HB.out.cell (wBl w _ hx104_1)).trans hx104_1
             replace hx104_2 := (HB.out.cell (wBl w _ hx104_2)).trans hx104_2
             replace hx104_3 := (HB.out.cell (wBl w _ hx104_3)).trans hx104_3
             replace hx104_4 := (HB.out.cell (wBl w _ hx104_4)).trans hx104_4
             replace p104 := eq_true p104
             replace q104 := eq_true q104
             go_wp2_with (first | ((with_reducible refine gate_dst (N := 6) rfl ?_); refine box_event ?hg (N := 6) ?hd (cs := #[.int .i64 0, .int .i64 0, .int .i64 0, .int .i64 0, .int .i64 0]) (t := 66) ?hr ?_; (case hd => rfl); (case hg => rfl); (case hr => first | (go_simp; done) | (go_simp; rfl)); intro gb105 hg w21 hbox hb; have n0_ := aMk (below_step (by repeat (first | (with_reducible first | exact HB.out | apply bAl | apply bDn | apply bD1) | exact HB.out)) hb); have n1_ := aMk (hbox); have n2_ := aMk ((by rw [hg]; exact (below_size (by repeat (first | (with_reducible first | exact HB.out | apply bAl | apply bDn | apply bD1) | exact HB.out))) : w.heap.size ≤ gb105)); have n3_ := aMk ((by rw [hg]; exact (below_size (by repeat (first | (with_reducible first | exact HB.out | apply bAl | apply bDn | apply bD1) | exact HB.out))) : w.heap.size ≤ gb105)); clear HB; have HB := n0_; have BK105 := n1_; have GW105 := n2_; have GE105 := n3_; clear n0_ n1_ n2_ n3_; clear hb hbox hg; have hcz22_0 : w21.cell? ⟨gb105, 0, none⟩ = some (.int .i64 0) := (bCe BK105.out 0).trans rfl; have hcz22_1 : w21.cell? ⟨gb105, 1, none⟩ = some (.int .i64 0) := (bCe BK105.out 1).trans rfl; have hcz22_2 : w21.cell? ⟨gb105, 2, none⟩ = some (.int .i64 0) := (bCe BK105.out 2).trans rfl; have hcz22_3 : w21.cell? ⟨gb105, 3, none⟩ = some (.int .i64 0) := (bCe BK105.out 3).trans rfl; have hcz22_4 : w21.cell? ⟨gb105, 4, none⟩ = some (.int .i64 0) := (bCe BK105.out 4).trans rfl; have hfz22_0 := bFr BK105.out 0; have hfz22_1 := bFr BK105.out 1; have hfz22_2 := bFr BK105.out 2; have hfz22_3 := bFr BK105.out 3; have hfz22_4 := bFr BK105.out 4) | ((with_reducible refine gate_callee (f := 54) rfl ?_); refine goesL_ (some 27) rfl rfl Try.func54 (by kernel_rfl) rfl #[.int .i64 ((rd_T66 l0 x5_2).f0), .int .i64 0, .int .i64 100000000] rfl (by (try simp only [List.map_toArray, List.map_cons, List.map_nil]); first | done | rfl | (simp only [List.length_drop, List.length_take]; rfl)) ?_; (with_reducible refine (spec_l12In.calls ((rd_T66 l0 x5_2).f0) 0 100000000 false _ A9.out).mono ?_); rintro e w' ⟨rfl, ⟨nd, rfl⟩⟩; refine ⟨_, rfl, ?_⟩))
             go_ret
             exact ⟨by first | rfl | (simp [errW_none, errW_some] <;> rfl) | (simp [*, errW_none, errW_some] <;> rfl), by repeat (first | (with_reducible first | exact HB.out | apply bAl | apply bDn | apply bD1 | refine bSe ?_ GE105.out) | exact HB.out)⟩
         · rw [if_neg c8] at H
           exact absurd H (by simp)
       · rw [if_neg c7] at H
         have c7b0 : decide (x5_2 < (l0.length : Int)) = false := decide_eq_false c7
         clear c7
         obtain rfl := Option.some.inj H
         go_wp2
         go_ret
         exact ⟨by first | rfl | (simp [errW_none, errW_some] <;> rfl) | (simp [*, errW_none, errW_some] <;> rfl), by repeat (first | (with_reducible first | exact HB.out | apply bAl | apply bDn | apply bD1) | exact HB.out)⟩
def bits_Mul64.f (a0 a1 : Int) : Option (Int × Int) := if (0 ≤ a0 ∧ a0 ≤ 18446744073709551615) ∧ (0 ≤ a1 ∧ a1 ≤ 18446744073709551615) then some (a0 * a1 / 18446744073709551616, a0 * a1 % 18446744073709551616) else none
theorem bits_Mul64.calls (a0 a1 : Int) (r1 r2 : Int) (w : World) (h : bits_Mul64.f a0 a1 = some (r1, r2)) :
 Calls Try.prog 91 #[.int .u64 a0, .int .u64 a1] w fun e w' => e = .returned (.tuple #[.int .u64 r1, .int .u64 r2]) ∧ Drawn0 w w' := by
 unfold bits_Mul64.f at h
 by_cases c : (0 ≤ a0 ∧ a0 ≤ 18446744073709551615) ∧ (0 ≤ a1 ∧ a1 ≤ 18446744073709551615)
 · rw [if_pos c] at h
   obtain ⟨rfl, rfl⟩ := Prod.mk.inj (Option.some.inj h)
   obtain ⟨⟨h0, h1⟩, h2, h3⟩ := c
   obtain ⟨x, rfl⟩ := Int.eq_ofNat_of_zero_le h0
   obtain ⟨y, rfl⟩ := Int.eq_ofNat_of_zero_le h2
   refine (Try.bits_Mul64 x y (by omega) (by omega) w).mono ?_
   rintro e w' ⟨rfl, rfl⟩
   exact ⟨rfl, Drawn0.refl _⟩
 · rw [if_neg c] at h
   cases h
def bits_LeadingZeros64.f (a0 : Int) : Option Int := if 0 ≤ a0 ∧ a0 ≤ 18446744073709551615 then some (64 - (Lib.bitLen a0.toNat : Int)) else none
theorem bits_LeadingZeros64.calls (a0 : Int) (r : Int) (w : World) (h : bits_LeadingZeros64.f a0 = some r) :
 Calls Try.prog 128 #[.int .u64 a0] w fun e w' => e = .returned (.int .i64 r) ∧ Drawn0 w w' := by
 unfold bits_LeadingZeros64.f at h
 by_cases c : 0 ≤ a0 ∧ a0 ≤ 18446744073709551615
 · rw [if_pos c] at h
   obtain rfl := Option.some.inj h
   refine (Try.bits_LeadingZeros64 a0 w c.1 c.2).mono ?_
   rintro e w' ⟨rfl, rfl⟩
   exact ⟨rfl, Drawn0.refl _⟩
 · rw [if_neg c] at h
   cases h
end Go.Proofs.Ytpknhndanbgkmaa.MFnShares
