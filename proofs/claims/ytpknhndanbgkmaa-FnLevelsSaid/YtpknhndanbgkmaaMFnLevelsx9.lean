-- Written by this session's own program (wip/gen/myprint.py).
import Derived.Test.YtpknhndanbgkmaaMFnLevelsx0
import Derived.Test.YtpknhndanbgkmaaMFnLevelsx8
namespace Go.Proofs.Ytpknhndanbgkmaa.MFnLevels
open Go.RowKit Go.Proofs.YtpknhndanbgkmaaW.PrintWords Go.Proofs.YtpknhndanbgkmaaW.PrintLast Go.Proofs.YtpknhndanbgkmaaW.PrintMore
attribute [local go_sem] max2_int min2_int max_two min_two max_three min_three max_four min_four   -- for this text's walks alone
set_option linter.unusedVariables false
set_option linter.unusedSimpArgs false
def impl_run_ahead.l0 : Nat → List Int → Int → List Int → Int → Option (Int)
 | 0, _, _, _, _ => none
 | k + 1, x2, x7, x256000, x256001 => if x7 ≥ 0 then (if 0 ≤ x7 then (if x7 < (x256000.length : Int) then ((slices_Contains_int_int.f k x2 (rd x256000 x7)).bind fun t257 => (if t257 = true then (some (rd x256000 x7)) else (impl_run_ahead.l0 k x2 (wrap64 (x7 - 1)) x256000 x256001))) else (none)) else (none)) else (some x256001)
def impl_run_ahead.f (k : Nat) (l0_0 : List Int) (a0_1 : Int) (a1 : Int) (l2 : List Int) : Option (Int) := impl_run_ahead.l0 k l2 (wrap64 (a1 - 1)) l0_0 a0_1
set_option maxHeartbeats 8000000 in
set_option maxRecDepth 100000 in
theorem impl_run_ahead.calls (k : Nat) (A0_0 : Option Addr) (c0_0 : Nat) (l0_0 : List Int) (a0_1 : Int) (a1 : Int) (A2 : Option Addr) (c2 : Nat) (l2 : List Int) (r : Int) (w : World) (hr0_0 : Kd.C (Kd.int .i64) w A0_0 l0_0.length l0_0) (hc0_0 : l0_0.length ≤ c0_0) (hr2 : Kd.C (Kd.int .i64) w A2 l2.length l2) (hc2 : l2.length ≤ c2) (h : impl_run_ahead.f k l0_0 a0_1 a1 l2 = some r) :
 Calls Try.prog 137 #[.agg #[.slice A0_0 l0_0.length c0_0, .int .i64 a0_1], .int .i64 a1, .slice A2 l2.length c2] w fun e w' => e = .returned (.int .i64 r) ∧ Below w.heap.size w w' := by
 have hu128 := Try.underlying128
 have HR0_0 := aMk hr0_0
 have HC0_0 := aMk hc0_0
 clear hr0_0 hc0_0
 have HR2 := aMk hr2
 have HC2 := aMk hc2
 clear hr2 hc2
 have HB := aMk (Below.refl w.heap.size w)
 have H : (impl_run_ahead.l0 k l2 (wrap64 (a1 - 1)) l0_0 a0_1) = some r := h
 clear h
 have H' := aMk H
 clear H
 go_enter Try.func137, Try.ntmps137
 go_wp2_with (first | ((with_reducible refine gate_dst (N := 3) rfl ?_); refine box_event ?hg (N := 3) ?hd (cs := #[.slice A0_0 l0_0.length c0_0, .int .i64 a0_1]) (t := 128) ?hr ?_; (case hd => rfl); (case hg => rfl); (case hr => first | (go_simp; done) | (go_simp; rfl)); intro gb255 hg w4 hbox hb; have n0_ := aMk (below_step (by repeat (first | (with_reducible first | exact HB.out | apply bAl | apply bDn | apply bD1) | exact HB.out)) hb); have n1_ := aMk (hbox); have n2_ := aMk ((by rw [hg]; exact (below_size (by repeat (first | (with_reducible first | exact HB.out | apply bAl | apply bDn | apply bD1) | exact HB.out))) : w.heap.size ≤ gb255)); have n3_ := aMk ((by rw [hg]; exact (below_size (by repeat (first | (with_reducible first | exact HB.out | apply bAl | apply bDn | apply bD1) | exact HB.out))) : w.heap.size ≤ gb255)); clear HB; have HB := n0_; have BK255 := n1_; have GW255 := n2_; have GE255 := n3_; clear n0_ n1_ n2_ n3_; clear hb hbox hg))
 go_loopg [7] k (fun kq v7 w' => ∃ (x7_1 : Int), v7 = .int .i64 x7_1 ∧ Aside0 (impl_run_ahead.l0 kq l2 x7_1 l0_0 a0_1 = some r) ∧ Aside0 (kq ≤ k) ∧ Aside0 (w'.heap[gb255]? = some (.cells #[(.slice A0_0 l0_0.length c0_0), .int .i64 a0_1] 128 (0, 0))) ∧ Aside0 (Below w.heap.size w w'))
 case atStart => exact ⟨(wrap64 (a1 - 1)), (by first | rfl | (simp; done) | (simp [*]; done)), H', ⟨Nat.le_refl _⟩, ⟨by (with_reducible repeat (first | refine bkD ?_ _ | refine blk_drew ?_ | refine bkA ?_ _)); exact BK255.out⟩, ⟨by repeat (first | (with_reducible first | exact HB.out | apply bAl | apply bDn | apply bD1 | refine bSe ?_ GE255.out) | exact HB.out)⟩⟩
 case round =>
  clear H'
  try clear c1
  try clear c2
  try clear p2
  obtain ⟨x7_1, rfl, HA, HK1, BK255, HB⟩ := hrel
  cases gk with
  | zero => exact absurd HA.out (by simp [impl_run_ahead.l0])
  | succ k1 =>
   have H := HA.out
   clear HA
   simp only [impl_run_ahead.l0] at H
   by_cases c5 : x7_1 ≥ 0
   · rw [if_pos c5] at H
     have c5b0 : decide (0 ≤ x7_1) = true := decide_eq_true c5
     clear c5
     by_cases c6 : 0 ≤ x7_1
     · rw [if_pos c6] at H
       have c6b0 : decide (0 ≤ x7_1) = true := decide_eq_true c6
       clear c6
       by_cases c7 : x7_1 < (l0_0.length : Int)
       · rw [if_pos c7] at H
         have c7b0 : decide (x7_1 < (l0_0.length : Int)) = true := decide_eq_true c7
         clear c7
         replace H := oBm H
         obtain ⟨t257, A80, H⟩ := H
         replace H : (if t257 = true then (some (rd l0_0 x7_1)) else (impl_run_ahead.l0 k1 l2 (wrap64 (x7_1 - 1)) l0_0 a0_1)) = some r := H
         have A8 := aMk A80
         clear A80
         by_cases c9 : t257 = true
         · subst c9
           have H1 : (some (rd l0_0 x7_1)) = some r := by rw [if_pos rfl] at H; exact H
           clear H
           have H := H1
           clear H1
           obtain rfl := Option.some.inj H
           have hcz10_0 : wr.cell? ⟨gb255, 0, none⟩ = some (.slice A0_0 l0_0.length c0_0) := (bCe BK255.out 0).trans rfl
           have hcz10_1 : wr.cell? ⟨gb255, 1, none⟩ = some (.int .i64 a0_1) := (bCe BK255.out 1).trans rfl
           have hfz10_0 := bFr BK255.out 0
           have hfz10_1 := bFr BK255.out 1
           have p256 : 0 ≤ (x7_1 : Int) := oDt (by first | (with_reducible assumption) | assumption)
           have q256 : x7_1 < (l0_0.length : Int) := oDt (by first | (with_reducible assumption) | assumption)
           obtain ⟨ad256, e256, hx256_0⟩ := Kd.at_int HR0_0.out x7_1 p256 q256
           cases e256
           replace hx256_0 := (HB.out.cell (wBl w _ hx256_0)).trans hx256_0
           replace p256 := eq_true p256
           replace q256 := eq_true q256
           go_wp2_with (first | ((with_reducible refine gate_callee (f := 155) rfl ?_); refine goesL_ (some 20) rfl rfl Try.func155 (by kernel_rfl) rfl #[.slice A2 l2.length c2, .int .i64 (rd l0_0 x7_1)] rfl (by (try simp only [List.map_toArray, List.map_cons, List.map_nil]); first | done | rfl | (simp only [List.length_drop, List.length_take]; rfl)) ?_; (with_reducible refine (slices_Contains_int_int.calls k1 _ _ l2 (rd l0_0 x7_1) true _ ?side1 ?side2 A8.out).mono ?_); (case side1 => repeat (first | exact (Kd.C_below HR2.out HB.out) | (with_reducible refine Kd.C_alloc ?_ _) | (with_reducible refine Kd.C_drewN ?_ _) | (with_reducible refine Kd.C_drew ?_))); (case side2 => exact HC2.out); rintro e w' ⟨rfl, ⟨nd, rfl⟩⟩; refine ⟨_, rfl, ?_⟩; have p258 : 0 ≤ (x7_1 : Int) := oDt (by first | (with_reducible assumption) | assumption); have q258 : x7_1 < (l0_0.length : Int) := oDt (by first | (with_reducible assumption) | assumption); obtain ⟨ad258, e258, hx258_0⟩ := Kd.at_int HR0_0.out x7_1 p258 q258; obtain rfl : ad256 = ad258 := (by injection e258); replace hx258_0 := (HB.out.cell (wBl w _ hx258_0)).trans hx258_0; replace p258 := eq_true p258; replace q258 := eq_true q258))
           go_ret
           exact ⟨by first | rfl | (simp [errW_none, errW_some] <;> rfl) | (simp [*, errW_none, errW_some] <;> rfl), by repeat (first | (with_reducible first | exact HB.out | apply bAl | apply bDn | apply bD1 | refine bSe ?_ GE255.out) | exact HB.out)⟩
         · replace c9 := Bool.eq_false_iff.mpr c9
           subst c9
           have H1 : (impl_run_ahead.l0 k1 l2 (wrap64 (x7_1 - 1)) l0_0 a0_1) = some r := by rw [if_neg (show ¬ (false = true) by decide)] at H; exact H
           clear H
           have H := H1
           clear H1
           have H' := aMk H
           clear H
           have hcz11_0 : wr.cell? ⟨gb255, 0, none⟩ = some (.slice A0_0 l0_0.length c0_0) := (bCe BK255.out 0).trans rfl
           have hcz11_1 : wr.cell? ⟨gb255, 1, none⟩ = some (.int .i64 a0_1) := (bCe BK255.out 1).trans rfl
           have hfz11_0 := bFr BK255.out 0
           have hfz11_1 := bFr BK255.out 1
           have p256 : 0 ≤ (x7_1 : Int) := oDt (by first | (with_reducible assumption) | assumption)
           have q256 : x7_1 < (l0_0.length : Int) := oDt (by first | (with_reducible assumption) | assumption)
           obtain ⟨ad256, e256, hx256_0⟩ := Kd.at_int HR0_0.out x7_1 p256 q256
           cases e256
           replace hx256_0 := (HB.out.cell (wBl w _ hx256_0)).trans hx256_0
           replace p256 := eq_true p256
           replace q256 := eq_true q256
           go_wp2_with (first | ((with_reducible refine gate_callee (f := 155) rfl ?_); refine goesL_ (some 20) rfl rfl Try.func155 (by kernel_rfl) rfl #[.slice A2 l2.length c2, .int .i64 (rd l0_0 x7_1)] rfl (by (try simp only [List.map_toArray, List.map_cons, List.map_nil]); first | done | rfl | (simp only [List.length_drop, List.length_take]; rfl)) ?_; (with_reducible refine (slices_Contains_int_int.calls k1 _ _ l2 (rd l0_0 x7_1) false _ ?side1 ?side2 A8.out).mono ?_); (case side1 => repeat (first | exact (Kd.C_below HR2.out HB.out) | (with_reducible refine Kd.C_alloc ?_ _) | (with_reducible refine Kd.C_drewN ?_ _) | (with_reducible refine Kd.C_drew ?_))); (case side2 => exact HC2.out); rintro e w' ⟨rfl, ⟨nd, rfl⟩⟩; refine ⟨_, rfl, ?_⟩))
           go_roundg k1
           case measure => have := HK1.out; omega
           case rel => exact ⟨(wrap64 (x7_1 - 1)), (by first | rfl | (simp; done) | (simp [*]; done)), H', ⟨by have := HK1.out; omega⟩, ⟨by (with_reducible repeat (first | refine bkD ?_ _ | refine blk_drew ?_ | refine bkA ?_ _)); exact BK255.out⟩, ⟨by repeat (first | (with_reducible first | exact HB.out | apply bAl | apply bDn | apply bD1 | refine bSe ?_ GE255.out) | exact HB.out)⟩⟩
       · rw [if_neg c7] at H
         exact absurd H (by simp)
     · rw [if_neg c6] at H
       exact absurd H (by simp)
   · rw [if_neg c5] at H
     have c5b0 : decide (0 ≤ x7_1) = false := decide_eq_false c5
     clear c5
     obtain rfl := Option.some.inj H
     have hcz12_0 : wr.cell? ⟨gb255, 0, none⟩ = some (.slice A0_0 l0_0.length c0_0) := (bCe BK255.out 0).trans rfl
     have hcz12_1 : wr.cell? ⟨gb255, 1, none⟩ = some (.int .i64 a0_1) := (bCe BK255.out 1).trans rfl
     have hfz12_0 := bFr BK255.out 0
     have hfz12_1 := bFr BK255.out 1
     go_wp2
     go_ret
     exact ⟨by first | rfl | (simp [errW_none, errW_some] <;> rfl) | (simp [*, errW_none, errW_some] <;> rfl), by repeat (first | (with_reducible first | exact HB.out | apply bAl | apply bDn | apply bD1 | refine bSe ?_ GE255.out) | exact HB.out)⟩
end Go.Proofs.Ytpknhndanbgkmaa.MFnLevels
