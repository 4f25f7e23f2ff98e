-- Written by this session's own program (wip/gen/myprint.py).
import Derived.Test.YtppjmcfcacgbdaaMFnFloatsx0
import Derived.Test.YtppjmcfcacgbdaaMFnFloatsx5
namespace Go.Proofs.Ytppjmcfcacgbdaa.MFnFloats
open Go.RowKit Go.Proofs.YtppjmcfcacgbdaaW.PrintWords Go.Proofs.YtppjmcfcacgbdaaW.PrintLast Go.Proofs.YtppjmcfcacgbdaaW.PrintMore
attribute [local go_sem] max2_int min2_int max_two min_two max_three min_three max_four min_four   -- for this text's walks alone
set_option linter.unusedVariables false
set_option linter.unusedSimpArgs false

/-! ### impl_FloatsOk: function 70 -/
def impl_FloatsOk.l0 : Nat → List (S38) → List (S38) → Int → Int → Option (Bool)
 | 0, _, _, _, _ => none
 | k + 1, x0, x5, x6, x7 => if x7 < x6 then (if 0 ≤ x7 then (if x7 < (x5.length : Int) then ((impl_inUnits.f ((rd_T38 x5 x7).f0.f0)).bind fun t307 => (if t307 = true then ((impl_inUnits.f ((rd_T38 x5 x7).f0.f1)).bind fun t308 => (if t308 = true then ((impl_nonNegative.f ((rd_T38 x5 x7).f0.f2)).bind fun t309 => (if t309 = true then ((impl_nonNegative.f ((rd_T38 x5 x7).f0.f3)).bind fun t310 => (if t310 = true then (impl_FloatsOk.l0 k x0 x5 x6 (wrap64 (x7 + 1))) else (some false))) else (some false))) else (some false))) else (some false))) else (none)) else (none)) else (some (decide ((x0.length : Int) ≤ 1000)))
def impl_FloatsOk.f (k : Nat) (l0 : List (S38)) : Option (Bool) := impl_FloatsOk.l0 k l0 l0 (l0.length : Int) 0
theorem impl_FloatsOk.mono_l : ∀ k, (∀ y0 y1 y2 y3, LeO (impl_FloatsOk.l0 k y0 y1 y2 y3) (impl_FloatsOk.l0 (k + 1) y0 y1 y2 y3))
 | 0 => fun _ _ _ _ r h => by simp [impl_FloatsOk.l0] at h
 | k + 1 => by
  have ih0 := impl_FloatsOk.mono_l k
  · intro y0 y1 y2 y3
    unfold impl_FloatsOk.l0
    repeat' first
    | (with_reducible exact ih0 _ _ _ _)
    | (with_reducible exact LeO.refl _)
    | (with_reducible exact LeO.none _)
    | (with_reducible refine LeO.ite ?_ ?_)
    | (with_reducible refine LeO.bind ?_ (fun _ => ?_))
    | exact ih0 _ _ _ _
    | exact LeO.none _
    | refine LeO.ite ?_ ?_
    | refine LeO.bind ?_ (fun _ => ?_)
theorem impl_FloatsOk.mono : ∀ a0 k, LeO (impl_FloatsOk.f k a0) (impl_FloatsOk.f (k + 1) a0) := by
 intro a0 k
 have ih0 := impl_FloatsOk.mono_l k
 unfold impl_FloatsOk.f
 repeat' first
  | (with_reducible exact ih0 _ _ _ _)
  | (with_reducible exact LeO.refl _)
  | (with_reducible exact LeO.none _)
  | (with_reducible refine LeO.ite ?_ ?_)
  | (with_reducible refine LeO.bind ?_ (fun _ => ?_))
  | exact ih0 _ _ _ _
  | exact LeO.none _
  | refine LeO.ite ?_ ?_
  | refine LeO.bind ?_ (fun _ => ?_)
set_option maxHeartbeats 8000000 in
set_option maxRecDepth 100000 in
theorem impl_FloatsOk.calls (k : Nat) (A0 : Option Addr) (c0 : Nat) (l0 : List (S38)) (r : Bool) (w : World) (hr0 : Kd.C k38 w A0 l0.length l0) (hc0 : l0.length ≤ c0) (h : impl_FloatsOk.f k l0 = some r) :
 Calls Try.prog 70 #[.slice A0 l0.length c0] w fun e w' => e = .returned (.bool r) ∧ Below w.heap.size w w' := by
 have hu38 := Try.underlying38
 have HR0 := aMk hr0
 have HC0 := aMk hc0
 clear hr0 hc0
 have HB := aMk (Below.refl w.heap.size w)
 have H : (impl_FloatsOk.l0 k l0 l0 (l0.length : Int) 0) = some r := h
 clear h
 have H' := aMk H
 clear H
 go_enter Try.func70, Try.ntmps70
 go_wp2
 go_loopg [7] k (fun kq v7 w' => ∃ (x7_1 : Int), v7 = .int .i64 x7_1 ∧ Aside0 (impl_FloatsOk.l0 kq l0 l0 (l0.length : Int) x7_1 = some r) ∧ Aside0 (kq ≤ k) ∧ Aside0 (Below w.heap.size w w'))
 case atStart => exact ⟨(0), (by first | rfl | (simp; done) | (simp [*]; done)), H', ⟨Nat.le_refl _⟩, ⟨by repeat (first | (with_reducible first | exact HB.out | apply bAl | apply bDn | apply bD1) | exact HB.out)⟩⟩
 case round =>
  clear H'
  obtain ⟨x7_1, rfl, HA, HK1, HB⟩ := hrel
  cases gk with
  | zero => exact absurd HA.out (by simp [impl_FloatsOk.l0])
  | succ k1 =>
   have H := HA.out
   clear HA
   simp only [impl_FloatsOk.l0] at H
   by_cases c2 : x7_1 < (l0.length : Int)
   · rw [if_pos c2] at H
     have c2b0 : decide (x7_1 < (l0.length : Int)) = true := decide_eq_true c2
     clear c2
     by_cases c3 : 0 ≤ x7_1
     · rw [if_pos c3] at H
       have c3b0 : decide (0 ≤ x7_1) = true := decide_eq_true c3
       clear c3
       by_cases c4 : x7_1 < (l0.length : Int)
       · rw [if_pos c4] at H
         have c4b0 : decide (x7_1 < (l0.length : Int)) = true := decide_eq_true c4
         clear c4
         replace H := oBm H
         obtain ⟨t307, A50, H⟩ := H
         replace H : (if t307 = true then ((impl_inUnits.f ((rd_T38 l0 x7_1).f0.f1)).bind fun t308 => (if t308 = true then ((impl_nonNegative.f ((rd_T38 l0 x7_1).f0.f2)).bind fun t309 => (if t309 = true then ((impl_nonNegative.f ((rd_T38 l0 x7_1).f0.f3)).bind fun t310 => (if t310 = true then (impl_FloatsOk.l0 k1 l0 l0 (l0.length : Int) (wrap64 (x7_1 + 1))) else (some false))) else (some false))) else (some false))) else (some false)) = some r := H
         have A5 := aMk A50
         clear A50
         by_cases c6 : t307 = true
         · subst c6
           have H1 : ((impl_inUnits.f ((rd_T38 l0 x7_1).f0.f1)).bind fun t308 => (if t308 = true then ((impl_nonNegative.f ((rd_T38 l0 x7_1).f0.f2)).bind fun t309 => (if t309 = true then ((impl_nonNegative.f ((rd_T38 l0 x7_1).f0.f3)).bind fun t310 => (if t310 = true then (impl_FloatsOk.l0 k1 l0 l0 (l0.length : Int) (wrap64 (x7_1 + 1))) else (some false))) else (some false))) else (some false))) = some r := by rw [if_pos rfl] at H; exact H
           clear H
           have H := H1
           clear H1
           replace H := oBm H
           obtain ⟨t308, A70, H⟩ := H
           replace H : (if t308 = true then ((impl_nonNegative.f ((rd_T38 l0 x7_1).f0.f2)).bind fun t309 => (if t309 = true then ((impl_nonNegative.f ((rd_T38 l0 x7_1).f0.f3)).bind fun t310 => (if t310 = true then (impl_FloatsOk.l0 k1 l0 l0 (l0.length : Int) (wrap64 (x7_1 + 1))) else (some false))) else (some false))) else (some false)) = some r := H
           have A7 := aMk A70
           clear A70
           by_cases c8 : t308 = true
           · subst c8
             have H1 : ((impl_nonNegative.f ((rd_T38 l0 x7_1).f0.f2)).bind fun t309 => (if t309 = true then ((impl_nonNegative.f ((rd_T38 l0 x7_1).f0.f3)).bind fun t310 => (if t310 = true then (impl_FloatsOk.l0 k1 l0 l0 (l0.length : Int) (wrap64 (x7_1 + 1))) else (some false))) else (some false))) = some r := by rw [if_pos rfl] at H; exact H
             clear H
             have H := H1
             clear H1
             replace H := oBm H
             obtain ⟨t309, A90, H⟩ := H
             replace H : (if t309 = true then ((impl_nonNegative.f ((rd_T38 l0 x7_1).f0.f3)).bind fun t310 => (if t310 = true then (impl_FloatsOk.l0 k1 l0 l0 (l0.length : Int) (wrap64 (x7_1 + 1))) else (some false))) else (some false)) = some r := H
             have A9 := aMk A90
             clear A90
             by_cases c10 : t309 = true
             · subst c10
               have H1 : ((impl_nonNegative.f ((rd_T38 l0 x7_1).f0.f3)).bind fun t310 => (if t310 = true then (impl_FloatsOk.l0 k1 l0 l0 (l0.length : Int) (wrap64 (x7_1 + 1))) else (some false))) = some r := by rw [if_pos rfl] at H; exact H
               clear H
               have H := H1
               clear H1
               replace H := oBm H
               obtain ⟨t310, A110, H⟩ := H
               replace H : (if t310 = true then (impl_FloatsOk.l0 k1 l0 l0 (l0.length : Int) (wrap64 (x7_1 + 1))) else (some false)) = some r := H
               have A11 := aMk A110
               clear A110
               by_cases c12 : t310 = true
               · subst c12
                 have H1 : (impl_FloatsOk.l0 k1 l0 l0 (l0.length : Int) (wrap64 (x7_1 + 1))) = some r := by rw [if_pos rfl] at H; exact H
                 clear H
                 have H := H1
                 clear H1
                 have H' := aMk H
                 clear H
                 have p305 : 0 ≤ (x7_1 : Int) := oDt (by first | (with_reducible assumption) | assumption)
                 have q305 : x7_1 < (l0.length : Int) := oDt (by first | (with_reducible assumption) | assumption)
                 obtain ⟨ad305, e305, hx305_0, hx305_1, hx305_2, hx305_3, hx305_4⟩ := at_T38 HR0.out x7_1 p305 q305
                 cases e305
                 replace hx305_0 := (HB.out.cell (wBl w _ hx305_0)).trans hx305_0
                 replace hx305_1 := (HB.out.cell (wBl w _ hx305_1)).trans hx305_1
                 replace hx305_2 := (HB.out.cell (wBl w _ hx305_2)).trans hx305_2
                 replace hx305_3 := (HB.out.cell (wBl w _ hx305_3)).trans hx305_3
                 replace hx305_4 := (HB.out.cell (wBl w _ hx305_4)).trans hx305_4
                 replace p305 := eq_true p305
                 replace q305 := eq_true q305
                 go_wp2_with (first | ((with_reducible refine gate_dst (N := 4) rfl ?_); refine box_event ?hg (N := 4) ?hd (cs := #[.int .i64 0, .int .i64 0, .int .i64 0, .int .i64 0, .bool false]) (t := 38) ?hr ?_; (case hd => rfl); (case hg => rfl); (case hr => first | (go_simp; done) | (go_simp; rfl)); intro gb306 hg w13 hbox hb; have n0_ := aMk (below_step (by repeat (first | (with_reducible first | exact HB.out | apply bAl | apply bDn | apply bD1) | exact HB.out)) hb); have n1_ := aMk (hbox); have n2_ := aMk ((by rw [hg]; exact (below_size (by repeat (first | (with_reducible first | exact HB.out | apply bAl | apply bDn | apply bD1) | exact HB.out))) : w.heap.size ≤ gb306)); have n3_ := aMk ((by rw [hg]; exact (below_size (by repeat (first | (with_reducible first | exact HB.out | apply bAl | apply bDn | apply bD1) | exact HB.out))) : w.heap.size ≤ gb306)); clear HB; have HB := n0_; have BK306 := n1_; have GW306 := n2_; have GE306 := n3_; clear n0_ n1_ n2_ n3_; clear hb hbox hg; have hcz14_0 : w13.cell? ⟨gb306, 0, none⟩ = some (.int .i64 0) := (bCe BK306.out 0).trans rfl; have hcz14_1 : w13.cell? ⟨gb306, 1, none⟩ = some (.int .i64 0) := (bCe BK306.out 1).trans rfl; have hcz14_2 : w13.cell? ⟨gb306, 2, none⟩ = some (.int .i64 0) := (bCe BK306.out 2).trans rfl; have hcz14_3 : w13.cell? ⟨gb306, 3, none⟩ = some (.int .i64 0) := (bCe BK306.out 3).trans rfl; have hcz14_4 : w13.cell? ⟨gb306, 4, none⟩ = some (.bool false) := (bCe BK306.out 4).trans rfl; have hfz14_0 := bFr BK306.out 0; have hfz14_1 := bFr BK306.out 1; have hfz14_2 := bFr BK306.out 2; have hfz14_3 := bFr BK306.out 3; have hfz14_4 := bFr BK306.out 4) | ((with_reducible refine gate_callee (f := 71) rfl ?_); refine goesL_ (some 14) rfl rfl Try.func71 (by kernel_rfl) rfl #[.int .i64 ((rd_T38 l0 x7_1).f0.f0)] rfl (by (try simp only [List.map_toArray, List.map_cons, List.map_nil]); first | done | rfl | (simp only [List.length_drop, List.length_take]; rfl)) ?_; (with_reducible refine (impl_inUnits.calls ((rd_T38 l0 x7_1).f0.f0) true _ A5.out).mono ?_); rintro e w' ⟨rfl, ⟨nd, rfl⟩⟩; refine ⟨_, rfl, ?_⟩) | (go_at_call 71; (with_reducible refine (impl_inUnits.calls ((rd_T38 l0 x7_1).f0.f1) true _ A7.out).mono ?_); rintro e w' ⟨rfl, ⟨nd, rfl⟩⟩) | (go_at_call 72; (with_reducible refine (impl_nonNegative.calls ((rd_T38 l0 x7_1).f0.f2) true _ A9.out).mono ?_); rintro e w' ⟨rfl, ⟨nd, rfl⟩⟩) | (go_at_call 72; (with_reducible refine (impl_nonNegative.calls ((rd_T38 l0 x7_1).f0.f3) true _ A11.out).mono ?_); rintro e w' ⟨rfl, ⟨nd, rfl⟩⟩))
                 go_roundg k1
                 case measure => have := HK1.out; omega
                 case rel => exact ⟨(wrap64 (x7_1 + 1)), (by first | rfl | (simp; done) | (simp [*]; done)), H', ⟨by have := HK1.out; omega⟩, ⟨by repeat (first | (with_reducible first | exact HB.out | apply bAl | apply bDn | apply bD1 | refine bSe ?_ GE306.out) | exact HB.out)⟩⟩
               · replace c12 := Bool.eq_false_iff.mpr c12
                 subst c12
                 have H1 : (some false) = some r := by rw [if_neg (show ¬ (false = true) by decide)] at H; exact H
                 clear H
                 have H := H1
                 clear H1
                 obtain rfl := Option.some.inj H
                 have p305 : 0 ≤ (x7_1 : Int) := oDt (by first | (with_reducible assumption) | assumption)
                 have q305 : x7_1 < (l0.length : Int) := oDt (by first | (with_reducible assumption) | assumption)
                 obtain ⟨ad305, e305, hx305_0, hx305_1, hx305_2, hx305_3, hx305_4⟩ := at_T38 HR0.out x7_1 p305 q305
                 cases e305
                 replace hx305_0 := (HB.out.cell (wBl w _ hx305_0)).trans hx305_0
                 replace hx305_1 := (HB.out.cell (wBl w _ hx305_1)).trans hx305_1
                 replace hx305_2 := (HB.out.cell (wBl w _ hx305_2)).trans hx305_2
                 replace hx305_3 := (HB.out.cell (wBl w _ hx305_3)).trans hx305_3
                 replace hx305_4 := (HB.out.cell (wBl w _ hx305_4)).trans hx305_4
                 replace p305 := eq_true p305
                 replace q305 := eq_true q305
                 go_wp2_with (first | ((with_reducible refine gate_dst (N := 4) rfl ?_); refine box_event ?hg (N := 4) ?hd (cs := #[.int .i64 0, .int .i64 0, .int .i64 0, .int .i64 0, .bool false]) (t := 38) ?hr ?_; (case hd => rfl); (case hg => rfl); (case hr => first | (go_simp; done) | (go_simp; rfl)); intro gb306 hg w15 hbox hb; have n0_ := aMk (below_step (by repeat (first | (with_reducible first | exact HB.out | apply bAl | apply bDn | apply bD1) | exact HB.out)) hb); have n1_ := aMk (hbox); have n2_ := aMk ((by rw [hg]; exact (below_size (by repeat (first | (with_reducible first | exact HB.out | apply bAl | apply bDn | apply bD1) | exact HB.out))) : w.heap.size ≤ gb306)); have n3_ := aMk ((by rw [hg]; exact (below_size (by repeat (first | (with_reducible first | exact HB.out | apply bAl | apply bDn | apply bD1) | exact HB.out))) : w.heap.size ≤ gb306)); clear HB; have HB := n0_; have BK306 := n1_; have GW306 := n2_; have GE306 := n3_; clear n0_ n1_ n2_ n3_; clear hb hbox hg; have hcz16_0 : w15.cell? ⟨gb306, 0, none⟩ = some (.int .i64 0) := (bCe BK306.out 0).trans rfl; have hcz16_1 : w15.cell? ⟨gb306, 1, none⟩ = some (.int .i64 0) := (bCe BK306.out 1).trans rfl; have hcz16_2 : w15.cell? ⟨gb306, 2, none⟩ = some (.int .i64 0) := (bCe BK306.out 2).trans rfl; have hcz16_3 : w15.cell? ⟨gb306, 3, none⟩ = some (.int .i64 0) := (bCe BK306.out 3).trans rfl; have hcz16_4 : w15.cell? ⟨gb306, 4, none⟩ = some (.bool false) := (bCe BK306.out 4).trans rfl; have hfz16_0 := bFr BK306.out 0; have hfz16_1 := bFr BK306.out 1; have hfz16_2 := bFr BK306.out 2; have hfz16_3 := bFr BK306.out 3; have hfz16_4 := bFr BK306.out 4) | ((with_reducible refine gate_callee (f := 71) rfl ?_); refine goesL_ (some 14) rfl rfl Try.func71 (by kernel_rfl) rfl #[.int .i64 ((rd_T38 l0 x7_1).f0.f0)] rfl (by (try simp only [List.map_toArray, List.map_cons, List.map_nil]); first | done | rfl | (simp only [List.length_drop, List.length_take]; rfl)) ?_; (with_reducible refine (impl_inUnits.calls ((rd_T38 l0 x7_1).f0.f0) true _ A5.out).mono ?_); rintro e w' ⟨rfl, ⟨nd, rfl⟩⟩; refine ⟨_, rfl, ?_⟩) | (go_at_call 71; (with_reducible refine (impl_inUnits.calls ((rd_T38 l0 x7_1).f0.f1) true _ A7.out).mono ?_); rintro e w' ⟨rfl, ⟨nd, rfl⟩⟩) | (go_at_call 72; (with_reducible refine (impl_nonNegative.calls ((rd_T38 l0 x7_1).f0.f2) true _ A9.out).mono ?_); rintro e w' ⟨rfl, ⟨nd, rfl⟩⟩) | (go_at_call 72; (with_reducible refine (impl_nonNegative.calls ((rd_T38 l0 x7_1).f0.f3) false _ A11.out).mono ?_); rintro e w' ⟨rfl, ⟨nd, rfl⟩⟩))
                 go_ret
                 exact ⟨by first | rfl | (simp [errW_none, errW_some] <;> rfl) | (simp [*, errW_none, errW_some] <;> rfl), by repeat (first | (with_reducible first | exact HB.out | apply bAl | apply bDn | apply bD1 | refine bSe ?_ GE306.out) | exact HB.out)⟩
             · replace c10 := Bool.eq_false_iff.mpr c10
               subst c10
               have H1 : (some false) = some r := by rw [if_neg (show ¬ (false = true) by decide)] at H; exact H
               clear H
               have H := H1
               clear H1
               obtain rfl := Option.some.inj H
               have p305 : 0 ≤ (x7_1 : Int) := oDt (by first | (with_reducible assumption) | assumption)
               have q305 : x7_1 < (l0.length : Int) := oDt (by first | (with_reducible assumption) | assumption)
               obtain ⟨ad305, e305, hx305_0, hx305_1, hx305_2, hx305_3, hx305_4⟩ := at_T38 HR0.out x7_1 p305 q305
               cases e305
               replace hx305_0 := (HB.out.cell (wBl w _ hx305_0)).trans hx305_0
               replace hx305_1 := (HB.out.cell (wBl w _ hx305_1)).trans hx305_1
               replace hx305_2 := (HB.out.cell (wBl w _ hx305_2)).trans hx305_2
               replace hx305_3 := (HB.out.cell (wBl w _ hx305_3)).trans hx305_3
               replace hx305_4 := (HB.out.cell (wBl w _ hx305_4)).trans hx305_4
               replace p305 := eq_true p305
               replace q305 := eq_true q305
               go_wp2_with (first | ((with_reducible refine gate_dst (N := 4) rfl ?_); refine box_event ?hg (N := 4) ?hd (cs := #[.int .i64 0, .int .i64 0, .int .i64 0, .int .i64 0, .bool false]) (t := 38) ?hr ?_; (case hd => rfl); (case hg => rfl); (case hr => first | (go_simp; done) | (go_simp; rfl)); intro gb306 hg w17 hbox hb; have n0_ := aMk (below_step (by repeat (first | (with_reducible first | exact HB.out | apply bAl | apply bDn | apply bD1) | exact HB.out)) hb); have n1_ := aMk (hbox); have n2_ := aMk ((by rw [hg]; exact (below_size (by repeat (first | (with_reducible first | exact HB.out | apply bAl | apply bDn | apply bD1) | exact HB.out))) : w.heap.size ≤ gb306)); have n3_ := aMk ((by rw [hg]; exact (below_size (by repeat (first | (with_reducible first | exact HB.out | apply bAl | apply bDn | apply bD1) | exact HB.out))) : w.heap.size ≤ gb306)); clear HB; have HB := n0_; have BK306 := n1_; have GW306 := n2_; have GE306 := n3_; clear n0_ n1_ n2_ n3_; clear hb hbox hg; have hcz18_0 : w17.cell? ⟨gb306, 0, none⟩ = some (.int .i64 0) := (bCe BK306.out 0).trans rfl; have hcz18_1 : w17.cell? ⟨gb306, 1, none⟩ = some (.int .i64 0) := (bCe BK306.out 1).trans rfl; have hcz18_2 : w17.cell? ⟨gb306, 2, none⟩ = some (.int .i64 0) := (bCe BK306.out 2).trans rfl; have hcz18_3 : w17.cell? ⟨gb306, 3, none⟩ = some (.int .i64 0) := (bCe BK306.out 3).trans rfl; have hcz18_4 : w17.cell? ⟨gb306, 4, none⟩ = some (.bool false) := (bCe BK306.out 4).trans rfl; have hfz18_0 := bFr BK306.out 0; have hfz18_1 := bFr BK306.out 1; have hfz18_2 := bFr BK306.out 2; have hfz18_3 := bFr BK306.out 3; have hfz18_4 := bFr BK306.out 4) | ((with_reducible refine gate_callee (f := 71) rfl ?_); refine goesL_ (some 14) rfl rfl Try.func71 (by kernel_rfl) rfl #[.int .i64 ((rd_T38 l0 x7_1).f0.f0)] rfl (by (try simp only [List.map_toArray, List.map_cons, List.map_nil]); first | done | rfl | (simp only [List.length_drop, List.length_take]; rfl)) ?_; (with_reducible refine (impl_inUnits.calls ((rd_T38 l0 x7_1).f0.f0) true _ A5.out).mono ?_); rintro e w' ⟨rfl, ⟨nd, rfl⟩⟩; refine ⟨_, rfl, ?_⟩) | (go_at_call 71; (with_reducible refine (impl_inUnits.calls ((rd_T38 l0 x7_1).f0.f1) true _ A7.out).mono ?_); rintro e w' ⟨rfl, ⟨nd, rfl⟩⟩) | (go_at_call 72; (with_reducible refine (impl_nonNegative.calls ((rd_T38 l0 x7_1).f0.f2) false _ A9.out).mono ?_); rintro e w' ⟨rfl, ⟨nd, rfl⟩⟩))
               go_ret
               exact ⟨by first | rfl | (simp [errW_none, errW_some] <;> rfl) | (simp [*, errW_none, errW_some] <;> rfl), by repeat (first | (with_reducible first | exact HB.out | apply bAl | apply bDn | apply bD1 | refine bSe ?_ GE306.out) | exact HB.out)⟩
           · replace c8 := Bool.eq_false_iff.mpr c8
             subst c8
             have H1 : (some false) = some r := by rw [if_neg (show ¬ (false = true) by decide)] at H; exact H
             clear H
             have H := H1
             clear H1
             obtain rfl := Option.some.inj H
             have p305 : 0 ≤ (x7_1 : Int) := oDt (by first | (with_reducible assumption) | assumption)
             have q305 : x7_1 < (l0.length : Int) := oDt (by first | (with_reducible assumption) | assumption)
             obtain ⟨ad305, e305, hx305_0, hx305_1, hx305_2, hx305_3, hx305_4⟩ := at_T38 HR0.out x7_1 p305 q305
             cases e305
             replace hx305_0 := (HB.out.cell (wBl w _ hx305_0)).trans hx305_0
             replace hx305_1 := (HB.out.cell (wBl w _ hx305_1)).trans hx305_1
             replace hx305_2 := (HB.out.cell (wBl w _ hx305_2)).trans hx305_2
             replace hx305_3 := (HB.out.cell (wBl w _ hx305_3)).trans hx305_3
             replace hx305_4 := (HB.out.cell (wBl w _ hx305_4)).trans hx305_4
             replace p305 := eq_true p305
             replace q305 := eq_true q305
             go_wp2_with (first | ((with_reducible refine gate_dst (N := 4) rfl ?_); refine box_event ?hg (N := 4) ?hd (cs := #[.int .i64 0, .int .i64 0, .int .i64 0, .int .i64 0, .bool false]) (t := 38) ?hr ?_; (case hd => rfl); (case hg => rfl); (case hr => first | (go_simp; done) | (go_simp; rfl)); intro gb306 hg w19 hbox hb; have n0_ := aMk (below_step (by repeat (first | (with_reducible first | exact HB.out | apply bAl | apply bDn | apply bD1) | exact HB.out)) hb); have n1_ := aMk (hbox); have n2_ := aMk ((by rw [hg]; exact (below_size (by repeat (first | (with_reducible first | exact HB.out | apply bAl | apply bDn | apply bD1) | exact HB.out))) : w.heap.size ≤ gb306)); have n3_ := aMk ((by rw [hg]; exact (below_size (by repeat (first | (with_reducible first | exact HB.out | apply bAl | apply bDn | apply bD1) | exact HB.out))) : w.heap.size ≤ gb306)); clear HB; have HB := n0_; have BK306 := n1_; have GW306 := n2_; have GE306 := n3_; clear n0_ n1_ n2_ n3_; clear hb hbox hg; have hcz20_0 : w19.cell? ⟨gb306, 0, none⟩ = some (.int .i64 0) := (bCe BK306.out 0).trans rfl; have hcz20_1 : w19.cell? ⟨gb306, 1, none⟩ = some (.int .i64 0) := (bCe BK306.out 1).trans rfl; have hcz20_2 : w19.cell? ⟨gb306, 2, none⟩ = some (.int .i64 0) := (bCe BK306.out 2).trans rfl; have hcz20_3 : w19.cell? ⟨gb306, 3, none⟩ = some (.int .i64 0) := (bCe BK306.out 3).trans rfl; have hcz20_4 : w19.cell? ⟨gb306, 4, none⟩ = some (.bool false) := (bCe BK306.out 4).trans rfl; have hfz20_0 := bFr BK306.out 0; have hfz20_1 := bFr BK306.out 1; have hfz20_2 := bFr BK306.out 2; have hfz20_3 := bFr BK306.out 3; have hfz20_4 := bFr BK306.out 4) | ((with_reducible refine gate_callee (f := 71) rfl ?_); refine goesL_ (some 14) rfl rfl Try.func71 (by kernel_rfl) rfl #[.int .i64 ((rd_T38 l0 x7_1).f0.f0)] rfl (by (try simp only [List.map_toArray, List.map_cons, List.map_nil]); first | done | rfl | (simp only [List.length_drop, List.length_take]; rfl)) ?_; (with_reducible refine (impl_inUnits.calls ((rd_T38 l0 x7_1).f0.f0) true _ A5.out).mono ?_); rintro e w' ⟨rfl, ⟨nd, rfl⟩⟩; refine ⟨_, rfl, ?_⟩) | (go_at_call 71; (with_reducible refine (impl_inUnits.calls ((rd_T38 l0 x7_1).f0.f1) false _ A7.out).mono ?_); rintro e w' ⟨rfl, ⟨nd, rfl⟩⟩))
             go_ret
             exact ⟨by first | rfl | (simp [errW_none, errW_some] <;> rfl) | (simp [*, errW_none, errW_some] <;> rfl), by repeat (first | (with_reducible first | exact HB.out | apply bAl | apply bDn | apply bD1 | refine bSe ?_ GE306.out) | exact HB.out)⟩
         · replace c6 := Bool.eq_false_iff.mpr c6
           subst c6
           have H1 : (some false) = some r := by rw [if_neg (show ¬ (false = true) by decide)] at H; exact H
           clear H
           have H := H1
           clear H1
           obtain rfl := Option.some.inj H
           have p305 : 0 ≤ (x7_1 : Int) := oDt (by first | (with_reducible assumption) | assumption)
           have q305 : x7_1 < (l0.length : Int) := oDt (by first | (with_reducible assumption) | assumption)
           obtain ⟨ad305, e305, hx305_0, hx305_1, hx305_2, hx305_3, hx305_4⟩ := at_T38 HR0.out x7_1 p305 q305
           cases e305
           replace hx305_0 := (HB.out.cell (wBl w _ hx305_0)).trans hx305_0
           replace hx305_1 := (HB.out.cell (wBl w _ hx305_1)).trans hx305_1
           replace hx305_2 := (HB.out.cell (wBl w _ hx305_2)).trans hx305_2
           replace hx305_3 := (HB.out.cell (wBl w _ hx305_3)).trans hx305_3
           replace hx305_4 := (HB.out.cell (wBl w _ hx305_4)).trans hx305_4
           replace p305 := eq_true p305
           replace q305 := eq_true q305
           go_wp2_with (first | ((with_reducible refine gate_dst (N := 4) rfl ?_); refine box_event ?hg (N := 4) ?hd (cs := #[.int .i64 0, .int .i64 0, .int .i64 0, .int .i64 0, .bool false]) (t := 38) ?hr ?_; (case hd => rfl); (case hg => rfl); (case hr => first | (go_simp; done) | (go_simp; rfl)); intro gb306 hg w21 hbox hb; have n0_ := aMk (below_step (by repeat (first | (with_reducible first | exact HB.out | apply bAl | apply bDn | apply bD1) | exact HB.out)) hb); have n1_ := aMk (hbox); have n2_ := aMk ((by rw [hg]; exact (below_size (by repeat (first | (with_reducible first | exact HB.out | apply bAl | apply bDn | apply bD1) | exact HB.out))) : w.heap.size ≤ gb306)); have n3_ := aMk ((by rw [hg]; exact (below_size (by repeat (first | (with_reducible first | exact HB.out | apply bAl | apply bDn | apply bD1) | exact HB.out))) : w.heap.size ≤ gb306)); clear HB; have HB := n0_; have BK306 := n1_; have GW306 := n2_; have GE306 := n3_; clear n0_ n1_ n2_ n3_; clear hb hbox hg; have hcz22_0 : w21.cell? ⟨gb306, 0, none⟩ = some (.int .i64 0) := (bCe BK306.out 0).trans rfl; have hcz22_1 : w21.cell? ⟨gb306, 1, none⟩ = some (.int .i64 0) := (bCe BK306.out 1).trans rfl; have hcz22_2 : w21.cell? ⟨gb306, 2, none⟩ = some (.int .i64 0) := (bCe BK306.out 2).trans rfl; have hcz22_3 : w21.cell? ⟨gb306, 3, none⟩ = some (.int .i64 0) := (bCe BK306.out 3).trans rfl; have hcz22_4 : w21.cell? ⟨gb306, 4, none⟩ = some (.bool false) := (bCe BK306.out 4).trans rfl; have hfz22_0 := bFr BK306.out 0; have hfz22_1 := bFr BK306.out 1; have hfz22_2 := bFr BK306.out 2; have hfz22_3 := bFr BK306.out 3; have hfz22_4 := bFr BK306.out 4) | ((with_reducible refine gate_callee (f := 71) rfl ?_); refine goesL_ (some 14) rfl rfl Try.func71 (by kernel_rfl) rfl #[.int .i64 ((rd_T38 l0 x7_1).f0.f0)] rfl (by (try simp only [List.map_toArray, List.map_cons, List.map_nil]); first | done | rfl | (simp only [List.length_drop, List.length_take]; rfl)) ?_; (with_reducible refine (impl_inUnits.calls ((rd_T38 l0 x7_1).f0.f0) false _ A5.out).mono ?_); rintro e w' ⟨rfl, ⟨nd, rfl⟩⟩; refine ⟨_, rfl, ?_⟩))
           go_ret
           exact ⟨by first | rfl | (simp [errW_none, errW_some] <;> rfl) | (simp [*, errW_none, errW_some] <;> rfl), by repeat (first | (with_reducible first | exact HB.out | apply bAl | apply bDn | apply bD1 | refine bSe ?_ GE306.out) | exact HB.out)⟩
       · rw [if_neg c4] at H
         exact absurd H (by simp)
     · rw [if_neg c3] at H
       exact absurd H (by simp)
   · rw [if_neg c2] at H
     have c2b0 : decide (x7_1 < (l0.length : Int)) = false := decide_eq_false c2
     clear c2
     obtain rfl := Option.some.inj H
     go_wp2
     go_ret
     exact ⟨by first | rfl | (simp [errW_none, errW_some] <;> rfl) | (simp [*, errW_none, errW_some] <;> rfl), by repeat (first | (with_reducible first | exact HB.out | apply bAl | apply bDn | apply bD1) | exact HB.out)⟩

/-! ### impl_room: function 121, by hand -/
def bcells (x : S38) : Array Value := #[.int .i64 x.f0.f0, .int .i64 x.f0.f1, .int .i64 x.f0.f2, .int .i64 x.f0.f3, .bool x.f1]
/-- A pointer to a band of a call's own. -/
def kBand : Kd S38 where
 sz := 1
 E := [180]
 K w x cs := ∃ g, cs = [.pointer (some ⟨g, 0, none⟩)] ∧ w.heap[g]? = some (.cells (bcells x) 180 (0, 0))
 M w base ok x cs := ∃ g, cs = [.pointer (some ⟨g, 0, none⟩)] ∧ w.heap[g]? = some (.cells (bcells x) 180 (0, 0)) ∧ ok g ∧ base ≤ g
 K_len := by rintro w x cs ⟨g, rfl, _⟩; rfl
 K_one := by
  rintro w x cs ⟨g, rfl, _⟩ u hu
  rw [List.mem_singleton] at hu
  subst hu
  rfl
 K_below := by
  rintro w w1 x cs hb ⟨g, rfl, h⟩
  exact ⟨g, rfl, (hb.block g (blk_lt h)).trans h⟩
 K_of_M := by
  rintro w base ok x cs ⟨g, rfl, h, _⟩
  exact ⟨g, rfl, h⟩
 M_mono := by
  rintro w base ok ok' x cs hm ⟨g, rfl, h, h1, h2⟩
  exact ⟨g, rfl, h, hm g h1, h2⟩
 M_bound := by
  rintro w base ok x cs ⟨g, rfl, h, h1, h2⟩
  exact ⟨g, rfl, h, ⟨h1, h2, blk_lt h, 180, by simp, _, h⟩, h2⟩
 M_move := by
  rintro w w1 base ok x cs hm ⟨g, rfl, h, h1, h2⟩
  exact ⟨g, rfl, (hm g h1).trans h, h1, h2⟩
 M_lower := by
  rintro w base base' ok x cs hb ⟨g, rfl, h, h1, h2⟩
  exact ⟨g, rfl, h, h1, Nat.le_trans hb h2⟩
def takes (x : S38) : Bool := decide (0 < x.f0.f2) && decide (0 < x.f0.f3)
def bandsF (l : List S38) : List S38 := l.filter takes
theorem bandsF_take (l : List S38) (n : Nat) (h : n < l.length) : bandsF (l.take (n + 1)) = if takes (l.getD n z38) = true then bandsF (l.take n) ++ [l.getD n z38] else bandsF (l.take n) := by
 have e : l.take (n + 1) = l.take n ++ [l.getD n z38] := by
  rw [List.take_add_one, List.getD_eq_getElem?_getD, List.getElem?_eq_getElem h]; rfl
 unfold bandsF
 rw [e, List.filter_append]
 by_cases c : takes (l.getD n z38) = true
 · rw [if_pos c, List.filter_cons_of_pos c, List.filter_nil]
 · rw [if_neg c, List.filter_cons_of_neg c, List.filter_nil, List.append_nil]
theorem eqBR (d : Nat) (w : World) (x0 y0 x1 y1 x2 y2 x3 y3 : Int) :
 (Op.equalIn (d + 2) 34 (.agg #[.int .i64 x0, .int .i64 x1, .int .i64 x2, .int .i64 x3]) (.agg #[.int .i64 y0, .int .i64 y1, .int .i64 y2, .int .i64 y3])).run Try.prog w = .ok (x0 == y0 && (x1 == y1 && (x2 == y2 && (x3 == y3)))) w := by
 refine eqA_of Try.underlying34 (by kernel_rfl) ?_
 refine eqf_cons (by rfl) (by go_simp; rfl) (by go_simp; rfl) (by go_simp) ?_
 refine eqf_cons (by rfl) (by go_simp; rfl) (by go_simp; rfl) (by go_simp) ?_
 refine eqf_cons (by rfl) (by go_simp; rfl) (by go_simp; rfl) (by go_simp) ?_
 exact eqf_last (by rfl) (by go_simp; rfl) (by go_simp; rfl) (by go_simp)
theorem infoB : (Try.prog.info? 178).map (fun i => (i.zero, i.size, i.bytes)) = some (some (.pointer none), 1, 8) := by kernel_rfl
def reachB (x : S38) (y h : Int) : Bool := if h = 0 then decide (x.f0.f1 ≤ y) && decide (y < wrap64 (x.f0.f1 + x.f0.f3)) else decide (x.f0.f1 < wrap64 (y + h)) && decide (y < wrap64 (x.f0.f1 + x.f0.f3))
set_option maxHeartbeats 8000000 in
set_option maxRecDepth 100000 in
theorem reaches_calls (x : S38) (y h : Int) (g : Nat) (w : World) (hg : w.heap[g]? = some (.cells (bcells x) 180 (0, 0))) :
 Calls Try.prog 156 #[.pointer (some ⟨g, 0, none⟩), .int .i64 y, .int .i64 h] w fun e w' => e = .returned (.bool (reachB x y h)) ∧ Drawn0 w w' := by
 have hc0 : w.cell? ⟨g, 0, none⟩ = some (.int .i64 x.f0.f0) := (bCe hg 0).trans rfl
 have hc1 : w.cell? ⟨g, 1, none⟩ = some (.int .i64 x.f0.f1) := (bCe hg 1).trans rfl
 have hc2 : w.cell? ⟨g, 2, none⟩ = some (.int .i64 x.f0.f2) := (bCe hg 2).trans rfl
 have hc3 : w.cell? ⟨g, 3, none⟩ = some (.int .i64 x.f0.f3) := (bCe hg 3).trans rfl
 have HG := aMk hg
 clear hg
 obtain ⟨r, hr⟩ : ∃ r, r = reachB x y h := ⟨_, rfl⟩
 rw [← hr]
 unfold reachB at hr
 by_cases c : h = 0
 · rw [if_pos c] at hr
   have c0 : (h == 0) = true := beq_iff_eq.mpr c
   have c1 : (h != 0) = false := by simp [c]
   clear c
   by_cases d : x.f0.f1 ≤ y <;> by_cases e : y < wrap64 (x.f0.f1 + x.f0.f3)
   all_goals
    simp only [d, e, decide_true, decide_false, Bool.and_true, Bool.and_false, Bool.false_and, Bool.true_and] at hr
    subst hr
    first | replace d := decide_eq_false d | replace d := decide_eq_true d
    first | replace e := decide_eq_false e | replace e := decide_eq_true e
    go_enter Try.func156, Try.ntmps156
    go_wp2
    repeat (go_quiet (fail); try go_wp2)
    go_ret
    exact ⟨rfl, by repeat (first | exact Drawn0.refl _ | apply Drawn0.step)⟩
 · rw [if_neg c] at hr
   have c0 : (h == 0) = false := beq_eq_false_iff_ne.mpr c
   have c1 : (h != 0) = true := bne_iff_ne.mpr c
   clear c
   by_cases d : x.f0.f1 < wrap64 (y + h) <;> by_cases e : y < wrap64 (x.f0.f1 + x.f0.f3)
   all_goals
    simp only [d, e, decide_true, decide_false, Bool.and_true, Bool.and_false, Bool.false_and, Bool.true_and] at hr
    subst hr
    first | replace d := decide_eq_false d | replace d := decide_eq_true d
    first | replace e := decide_eq_false e | replace e := decide_eq_true e
    go_enter Try.func156, Try.ntmps156
    go_wp2
    repeat (go_quiet (fail); try go_wp2)
    go_ret
    exact ⟨rfl, by repeat (first | exact Drawn0.refl _ | apply Drawn0.step)⟩
attribute [local go_sem high] eqBR
set_option maxHeartbeats 8000000 in
set_option maxRecDepth 100000 in
theorem bandsOf_calls (A0 : Option Addr) (c0 : Nat) (l0 : List S38) (w : World) (hr0 : Kd.C k38 w A0 l0.length l0) (hc0 : l0.length ≤ c0) (hl : l0.length ≤ 17592186044415) :
 Calls Try.prog 155 #[.slice A0 l0.length c0] w fun e w' => ∃ v0_ : Value, e = .returned v0_ ∧ Kd.R kBand 178 w' w.heap.size (fun _ => True) v0_ (bandsF l0) ∧ Below w.heap.size w w' := by
 have huF := Try.underlying38
 have huR := Try.underlying34
 have huB := Try.underlying180
 have HR0 := aMk hr0
 have HC0 := aMk hc0
 have HL := aMk hl
 clear hr0 hc0 hl
 have HB := aMk (Below.refl w.heap.size w)
 go_enter Try.func155, Try.ntmps155
 go_wp2_with (first | ((with_reducible refine gate_dst (N := 6) rfl ?_); refine Kd.R_lit kBand _ 178 ?hg (N := 6) ?hd (xs := ([] : List S38)) (inner := []) (ok := fun _ => True) (okp := fun _ => True) ?hr ?hp (fun _ hk => hk) trivial (Below.refl _ _) (Nat.le_refl _) (by simp) ?_; (case hd => rfl); (case hg => rfl); (case hr => first | (go_simp; done) | (go_simp; rfl)); (case hp => exact (Reps.none _ _)); intro v102 w3 ho4 hb hg_ hnew_; clear hg_ hnew_; have n0_ := aMk (Kd.R_lower ho4 (below_size (by repeat (first | (with_reducible first | exact HB.out | apply bAl | apply bDn | apply bD1) | exact HB.out)))); have n1_ := aMk (below_step (by repeat (first | (with_reducible first | exact HB.out | apply bAl | apply bDn | apply bD1) | exact HB.out)) hb); clear HB; have HO103 := n0_; have HB := n1_; clear n0_ n1_; clear hb ho4))
 go_loopg [3, 9] l0.length (fun kq v3 v9 w' => ∃ n : Nat, Aside0 (n + kq = l0.length) ∧ v9 = .int .i64 (n : Int) ∧ Aside0 (Kd.R kBand 178 w' w.heap.size (fun _ => True) v3 (bandsF (l0.take n))) ∧ Aside0 (Below w.heap.size w w'))
 case atStart => exact ⟨0, ⟨by simp⟩, rfl, ⟨by simpa [bandsF] using HO103.out⟩, ⟨HB.out⟩⟩
 case round =>
  obtain ⟨n, HN, rfl, HO, HB⟩ := hrel
  have HR := aMk (Below.refl wr.heap.size wr)
  by_cases c : n < l0.length
  · have c1 : decide ((n : Int) < (l0.length : Int)) = true := decide_eq_true (by omega)
    have p148 : 0 ≤ (n : Int) := by omega
    have q148 : (n : Int) < (l0.length : Int) := by omega
    obtain ⟨ad148, e148, hx148_0, hx148_1, hx148_2, hx148_3, hx148_4⟩ := at_T38 HR0.out n p148 q148
    rw [Int.toNat_natCast] at hx148_0 hx148_1 hx148_2 hx148_3 hx148_4
    have HT := bandsF_take l0 n c
    obtain ⟨x, hx⟩ : ∃ x, x = rd_T38 l0 (n : Int) := ⟨_, rfl⟩
    rw [← hx] at hx148_0 hx148_1 hx148_2 hx148_3 hx148_4
    have hx' : x = l0.getD n z38 := hx
    rw [← hx'] at HT
    clear hx hx'
    cases e148
    replace hx148_0 := (HB.out.cell (wBl w _ hx148_0)).trans hx148_0
    replace hx148_1 := (HB.out.cell (wBl w _ hx148_1)).trans hx148_1
    replace hx148_2 := (HB.out.cell (wBl w _ hx148_2)).trans hx148_2
    replace hx148_3 := (HB.out.cell (wBl w _ hx148_3)).trans hx148_3
    replace hx148_4 := (HB.out.cell (wBl w _ hx148_4)).trans hx148_4
    replace p148 := eq_true p148
    replace q148 := eq_true q148
    have hk : gk ≠ 0 := by have := HN.out; omega
    obtain ⟨k1, rfl⟩ := Nat.exists_eq_succ_of_ne_zero hk
    clear hk
    have HC := aMk c
    have HLM : Aside0 (((bandsF (l0.take n)).length + 1) * 8 ≤ 140737488355328) := by
     have h1 := HL.out
     have h2 : (bandsF (l0.take n)).length ≤ (l0.take n).length := List.length_filter_le takes (l0.take n)
     have h3 : (l0.take n).length ≤ n := by rw [List.length_take]; omega
     exact ⟨by omega⟩
    clear c
    by_cases d : 0 < x.f0.f2
    · by_cases e : 0 < x.f0.f3
      · have ht : takes x = true := by simp [takes, d, e]
        rw [if_pos ht] at HT
        have z1 : (x.f0.f2 == 0) = false := beq_eq_false_iff_ne.mpr (by omega)
        have z2 : (!(x.f0.f0 == 0) || (!(x.f0.f1 == 0) || (!(x.f0.f2 == 0) || !(x.f0.f3 == 0)))) = true := by simp [z1]
        replace d := decide_eq_true d
        replace e := decide_eq_true e
        clear ht
        replace HT := aMk HT
        go_wp2_with (first | ((with_reducible refine gate_dst (N := 5) rfl ?_); refine box_event ?hg (N := 5) ?hd (cs := #[.int .i64 0, .int .i64 0, .int .i64 0, .int .i64 0, .bool false]) (t := 38) ?hr ?_; (case hd => rfl); (case hg => rfl); (case hr => first | (go_simp; done) | (go_simp; rfl)); intro gb149 hg w12 hbox hb; have n0_ := aMk (below_step (by repeat (first | (with_reducible first | exact HB.out | apply bAl | apply bDn | apply bD1) | exact HB.out)) hb); have n1_ := aMk (hbox); have n2_ := aMk ((by rw [hg]; exact (below_size (by repeat (first | (with_reducible first | exact HB.out | apply bAl | apply bDn | apply bD1) | exact HB.out))) : w.heap.size ≤ gb149)); have n3_ := aMk (below_step (by repeat (first | (with_reducible first | exact HR.out | apply bAl | apply bDn | apply bD1) | exact HR.out)) hb); have n4_ := aMk ((by rw [hg]; exact (below_size (by repeat (first | (with_reducible first | exact HR.out | apply bAl | apply bDn | apply bD1) | exact HR.out))) : wr.heap.size ≤ gb149)); clear HB; clear HR; have HB := n0_; have BK149 := n1_; have GE149 := n2_; have HR := n3_; have GR149 := n4_; clear n0_ n1_ n2_ n3_ n4_; clear hb hbox hg; have hcz_0 : w12.cell? ⟨gb149, 0, none⟩ = some (.int .i64 0) := (bCe BK149.out 0).trans rfl; have hcz_1 : w12.cell? ⟨gb149, 1, none⟩ = some (.int .i64 0) := (bCe BK149.out 1).trans rfl; have hcz_2 : w12.cell? ⟨gb149, 2, none⟩ = some (.int .i64 0) := (bCe BK149.out 2).trans rfl; have hcz_3 : w12.cell? ⟨gb149, 3, none⟩ = some (.int .i64 0) := (bCe BK149.out 3).trans rfl; have hcz_4 : w12.cell? ⟨gb149, 4, none⟩ = some (.bool false) := (bCe BK149.out 4).trans rfl; have hfz_0 := bFr BK149.out 0; have hfz_1 := bFr BK149.out 1; have hfz_2 := bFr BK149.out 2; have hfz_3 := bFr BK149.out 3; have hfz_4 := bFr BK149.out 4) | ((with_reducible refine gate_dst (N := 35) rfl ?_); refine box_event ?hg (N := 35) ?hd (cs := bcells x) (t := 180) ?hr ?_; (case hd => rfl); (case hg => rfl); (case hr => first | (go_simp; done) | (go_simp; rfl)); intro gb2 hg w15 hbox hb; have n0_ := aMk (below_step (by repeat (first | (with_reducible first | exact HB.out | apply bAl | apply bDn | apply bD1 | refine bSe ?_ GE149.out) | exact HB.out)) hb); have n1_ := aMk (hbox); have n2_ := aMk ((by rw [hg]; exact (below_size (by repeat (first | (with_reducible first | exact HB.out | apply bAl | apply bDn | apply bD1 | refine bSe ?_ GE149.out) | exact HB.out))) : w.heap.size ≤ gb2)); have n3_ := aMk (below_step (by repeat (first | (with_reducible first | exact HR.out | apply bAl | apply bDn | apply bD1 | refine bSe ?_ GR149.out) | exact HR.out)) hb); have n4_ := aMk ((by rw [hg]; exact (below_size (by repeat (first | (with_reducible first | exact HR.out | apply bAl | apply bDn | apply bD1 | refine bSe ?_ GR149.out) | exact HR.out))) : wr.heap.size ≤ gb2)); clear HB; clear HR; have HB := n0_; have BK2 := n1_; have GE2 := n2_; have HR := n3_; have GR2 := n4_; clear n0_ n1_ n2_ n3_ n4_; clear hb hbox hg) | ((with_reducible refine gate_builtin (b := .append) (xs := #[.tmp 29, .tmp 36]) rfl ?_); at_builtin; refine Kd.R_append kBand (w0 := w) w.heap.size rfl (.tmp 29) (.tmp 36) 176 178 (.pointer none) 8 rfl Try.underlying176 infoB rfl (by decide) (by omega) u3 (bandsF (l0.take n)) x [.pointer (some ⟨gb2, 0, none⟩)] (fun _ => True) (fun k => k = gb2) rfl rfl ?aP ?aK ?aF ?aO ?aB ?aS ?aL ?_; (case aP => exact ⟨gb2, rfl, BK2.out, rfl, GE2.out⟩); (case aK => (rintro k rfl; exact ⟨trivial, fun he => by have := Kd.R_lt HO.out k he.symm; have := GR2.out; omega⟩)); (case aF => exact (fun _ _ => trivial)); (case aO => exact Kd.R_below HO.out HR.out); (case aB => exact HB.out); (case aS => exact below_size HB.out); (case aL => exact HLM.out); intro v117 w16 ho hb hg hat; have n0_ := aMk (hb); have n1_ := aMk (ho); clear HB; have HB := n0_; have HO1 := n1_; clear n0_ n1_; clear ho hb hg hat))
        go_roundg k1
        case measure => omega
        case rel => exact ⟨n + 1, ⟨by have := HN.out; omega⟩, (congrArg (Value.int .i64) (by have := HC.out; have := HL.out; (unfold wrap64; omega))), ⟨by rw [HT.out]; exact HO1.out⟩, ⟨HB.out⟩⟩
      · have ht : ¬ takes x = true := by simp [takes, d, e]
        rw [if_neg ht] at HT
        replace d := decide_eq_true d
        replace e := decide_eq_false e
        clear ht
        replace HT := aMk HT
        go_wp2_with (first | ((with_reducible refine gate_dst (N := 5) rfl ?_); refine box_event ?hg (N := 5) ?hd (cs := #[.int .i64 0, .int .i64 0, .int .i64 0, .int .i64 0, .bool false]) (t := 38) ?hr ?_; (case hd => rfl); (case hg => rfl); (case hr => first | (go_simp; done) | (go_simp; rfl)); intro gb149 hg w12 hbox hb; have n0_ := aMk (below_step (by repeat (first | (with_reducible first | exact HB.out | apply bAl | apply bDn | apply bD1) | exact HB.out)) hb); have n1_ := aMk (hbox); have n2_ := aMk ((by rw [hg]; exact (below_size (by repeat (first | (with_reducible first | exact HB.out | apply bAl | apply bDn | apply bD1) | exact HB.out))) : w.heap.size ≤ gb149)); have n3_ := aMk (below_step (by repeat (first | (with_reducible first | exact HR.out | apply bAl | apply bDn | apply bD1) | exact HR.out)) hb); have n4_ := aMk ((by rw [hg]; exact (below_size (by repeat (first | (with_reducible first | exact HR.out | apply bAl | apply bDn | apply bD1) | exact HR.out))) : wr.heap.size ≤ gb149)); clear HB; clear HR; have HB := n0_; have BK149 := n1_; have GE149 := n2_; have HR := n3_; have GR149 := n4_; clear n0_ n1_ n2_ n3_ n4_; clear hb hbox hg; have hcz_0 : w12.cell? ⟨gb149, 0, none⟩ = some (.int .i64 0) := (bCe BK149.out 0).trans rfl; have hcz_1 : w12.cell? ⟨gb149, 1, none⟩ = some (.int .i64 0) := (bCe BK149.out 1).trans rfl; have hcz_2 : w12.cell? ⟨gb149, 2, none⟩ = some (.int .i64 0) := (bCe BK149.out 2).trans rfl; have hcz_3 : w12.cell? ⟨gb149, 3, none⟩ = some (.int .i64 0) := (bCe BK149.out 3).trans rfl; have hcz_4 : w12.cell? ⟨gb149, 4, none⟩ = some (.bool false) := (bCe BK149.out 4).trans rfl; have hfz_0 := bFr BK149.out 0; have hfz_1 := bFr BK149.out 1; have hfz_2 := bFr BK149.out 2; have hfz_3 := bFr BK149.out 3; have hfz_4 := bFr BK149.out 4))
        go_roundg k1
        case measure => omega
        case rel => exact ⟨n + 1, ⟨by have := HN.out; omega⟩, (congrArg (Value.int .i64) (by have := HC.out; have := HL.out; (unfold wrap64; omega))), ⟨by rw [HT.out]; exact Kd.R_below HO.out (by repeat (first | (with_reducible first | exact HR.out | apply bAl | apply bDn | apply bD1 | refine bSe ?_ GR149.out) | exact HR.out))⟩, ⟨(by repeat (first | (with_reducible first | exact HB.out | apply bAl | apply bDn | apply bD1 | refine bSe ?_ GE149.out) | exact HB.out))⟩⟩
    · have ht : ¬ takes x = true := by simp [takes, d]
      rw [if_neg ht] at HT
      replace d := decide_eq_false d
      clear ht
      replace HT := aMk HT
      go_wp2_with (first | ((with_reducible refine gate_dst (N := 5) rfl ?_); refine box_event ?hg (N := 5) ?hd (cs := #[.int .i64 0, .int .i64 0, .int .i64 0, .int .i64 0, .bool false]) (t := 38) ?hr ?_; (case hd => rfl); (case hg => rfl); (case hr => first | (go_simp; done) | (go_simp; rfl)); intro gb149 hg w12 hbox hb; have n0_ := aMk (below_step (by repeat (first | (with_reducible first | exact HB.out | apply bAl | apply bDn | apply bD1) | exact HB.out)) hb); have n1_ := aMk (hbox); have n2_ := aMk ((by rw [hg]; exact (below_size (by repeat (first | (with_reducible first | exact HB.out | apply bAl | apply bDn | apply bD1) | exact HB.out))) : w.heap.size ≤ gb149)); have n3_ := aMk (below_step (by repeat (first | (with_reducible first | exact HR.out | apply bAl | apply bDn | apply bD1) | exact HR.out)) hb); have n4_ := aMk ((by rw [hg]; exact (below_size (by repeat (first | (with_reducible first | exact HR.out | apply bAl | apply bDn | apply bD1) | exact HR.out))) : wr.heap.size ≤ gb149)); clear HB; clear HR; have HB := n0_; have BK149 := n1_; have GE149 := n2_; have HR := n3_; have GR149 := n4_; clear n0_ n1_ n2_ n3_ n4_; clear hb hbox hg; have hcz_0 : w12.cell? ⟨gb149, 0, none⟩ = some (.int .i64 0) := (bCe BK149.out 0).trans rfl; have hcz_1 : w12.cell? ⟨gb149, 1, none⟩ = some (.int .i64 0) := (bCe BK149.out 1).trans rfl; have hcz_2 : w12.cell? ⟨gb149, 2, none⟩ = some (.int .i64 0) := (bCe BK149.out 2).trans rfl; have hcz_3 : w12.cell? ⟨gb149, 3, none⟩ = some (.int .i64 0) := (bCe BK149.out 3).trans rfl; have hcz_4 : w12.cell? ⟨gb149, 4, none⟩ = some (.bool false) := (bCe BK149.out 4).trans rfl; have hfz_0 := bFr BK149.out 0; have hfz_1 := bFr BK149.out 1; have hfz_2 := bFr BK149.out 2; have hfz_3 := bFr BK149.out 3; have hfz_4 := bFr BK149.out 4))
      go_roundg k1
      case measure => omega
      case rel => exact ⟨n + 1, ⟨by have := HN.out; omega⟩, (congrArg (Value.int .i64) (by have := HC.out; have := HL.out; (unfold wrap64; omega))), ⟨by rw [HT.out]; exact Kd.R_below HO.out (by repeat (first | (with_reducible first | exact HR.out | apply bAl | apply bDn | apply bD1 | refine bSe ?_ GR149.out) | exact HR.out))⟩, ⟨(by repeat (first | (with_reducible first | exact HB.out | apply bAl | apply bDn | apply bD1 | refine bSe ?_ GE149.out) | exact HB.out))⟩⟩
  · have c1 : decide ((n : Int) < (l0.length : Int)) = false := decide_eq_false (by omega)
    have hn : n = l0.length := by have := HN.out; omega
    subst hn
    rw [List.take_length] at HO
    go_wp2
    go_ret
    exact ⟨_, rfl, HO.out, HB.out⟩
def roomL : List S38 → Int → Int → Bool → Int → Int → Int × Int × Bool
 | [], left, right, sm, _, _ => (left, right, sm)
 | b :: bs, left, right, sm, y, h => if reachB b y h = true then (if b.f1 = true then roomL bs left (mn right b.f0.f0) true y h else roomL bs (mx left (wrap64 (b.f0.f0 + b.f0.f2))) right true y h) else roomL bs left right sm y h
set_option maxHeartbeats 8000000 in
set_option maxRecDepth 100000 in
theorem room_calls (A0 : Option Addr) (c0 : Nat) (l0 : List S38) (a1 a2 a3 a4 : Int) (r1 r2 : Int) (r3 : Bool) (w : World) (hr0 : Kd.C k38 w A0 l0.length l0) (hc0 : l0.length ≤ c0) (hl : l0.length ≤ 17592186044415) (h : roomL (bandsF l0) a1 a2 false a3 a4 = (r1, r2, r3)) :
 Calls Try.prog 121 #[.slice A0 l0.length c0, .int .i64 a1, .int .i64 a2, .int .i64 a3, .int .i64 a4] w fun e w' => e = .returned (.tuple #[.int .i64 r1, .int .i64 r2, .bool r3]) ∧ Below w.heap.size w w' := by
 have HR0 := aMk hr0
 have HC0 := aMk hc0
 have HL := aMk hl
 have H := aMk h
 clear hr0 hc0 hl h
 go_enter Try.func121, Try.ntmps121
 go_wp2_with (first | ((with_reducible refine gate_callee (f := 155) rfl ?_); refine goesL_ (some 17) rfl rfl Try.func155 (by kernel_rfl) rfl #[.slice A0 l0.length c0] rfl (by (try simp only [List.map_toArray, List.map_cons, List.map_nil]); first | done | rfl) ?_; (with_reducible refine (bandsOf_calls A0 c0 l0 w HR0.out HC0.out HL.out).mono ?_); rintro e w8 ⟨v0, rfl, ho, hb⟩; refine ⟨_, rfl, ?_⟩; obtain ⟨A1, c1, rfl, hl1, hr1⟩ := Kd.R_reads ho; have HB := aMk hb; have HR1 := aMk hr1; clear hb hr1 ho hl1))
 have HM : Aside0 ((bandsF l0).length ≤ 17592186044415) := ⟨Nat.le_trans (List.length_filter_le _ _) HL.out⟩
 go_loopg [1, 2, 13, 19] (bandsF l0).length (fun kq v1 v2 v13 v19 w' => ∃ (n : Nat) (x1 x2 : Int) (x13 : Bool), v1 = .int .i64 x1 ∧ v2 = .int .i64 x2 ∧ v13 = .bool x13 ∧ v19 = .int .i64 (n : Int) ∧ Aside0 (n + kq = (bandsF l0).length) ∧ Aside0 (roomL ((bandsF l0).drop n) x1 x2 x13 a3 a4 = (r1, r2, r3)) ∧ Aside0 (Below w8.heap.size w8 w'))
 case atStart => exact ⟨0, a1, a2, false, rfl, rfl, rfl, rfl, ⟨by simp⟩, ⟨H.out⟩, ⟨Below.refl _ _⟩⟩
 case round =>
  clear H
  obtain ⟨n, x1, x2, x13, rfl, rfl, rfl, rfl, HN, H, HW⟩ := hrel
  by_cases c : n < (bandsF l0).length
  · have c1 : decide ((n : Int) < ((bandsF l0).length : Int)) = true := decide_eq_true (by omega)
    have p148 : 0 ≤ (n : Int) := by omega
    have q148 : (n : Int) < ((bandsF l0).length : Int) := by omega
    obtain ⟨ad, cs, eA, _, ⟨g, rfl, hg⟩, hcell⟩ := Kd.C_get (Kd.C_below HR1.out HW.out) z38 (n : Int) p148 q148
    have hcc := hcell 0 _ rfl
    rw [Int.toNat_natCast, show kBand.sz = 1 from rfl, Nat.mul_one, Nat.add_zero] at hcc
    clear hcell
    have eb : (bandsF l0).getD (n : Int).toNat z38 = (bandsF l0)[n] := by simp [List.getElem?_eq_getElem c]
    rw [eb] at hg
    have H1 := H.out
    rw [List.drop_eq_getElem_cons c] at H1
    clear H eb
    generalize (bandsF l0)[n] = b at hg H1
    rw [roomL] at H1
    cases eA
    have hw : wrap64 ((n : Int) + 1) = ((n + 1 : Nat) : Int) := by
     have := HM.out
     unfold wrap64
     omega
    replace hw := aMk hw
    replace p148 := eq_true p148
    replace q148 := eq_true q148
    have hk : gk ≠ 0 := by have := HN.out; omega
    obtain ⟨k1, rfl⟩ := Nat.exists_eq_succ_of_ne_zero hk
    clear hk
    have HC := aMk c
    clear c
    have hc0 : wr.cell? ⟨g, 0, none⟩ = some (.int .i64 b.f0.f0) := (bCe hg 0).trans rfl
    have hc1 : wr.cell? ⟨g, 1, none⟩ = some (.int .i64 b.f0.f1) := (bCe hg 1).trans rfl
    have hc2 : wr.cell? ⟨g, 2, none⟩ = some (.int .i64 b.f0.f2) := (bCe hg 2).trans rfl
    have hc3 : wr.cell? ⟨g, 3, none⟩ = some (.int .i64 b.f0.f3) := (bCe hg 3).trans rfl
    have hc4 : wr.cell? ⟨g, 4, none⟩ = some (.bool b.f1) := (bCe hg 4).trans rfl
    have HG := aMk hg
    clear hg
    obtain ⟨t, ht⟩ : ∃ t, t = reachB b a3 a4 := ⟨_, rfl⟩
    obtain ⟨s, hs⟩ : ∃ s, s = b.f1 := ⟨_, rfl⟩
    rw [← ht, ← hs] at H1
    rw [← hs] at hc4
    clear hs
    have HT := aMk ht
    clear ht
    cases t
    · replace H1 := aMk H1
      go_wp2_with (first | ((with_reducible refine gate_callee (f := 156) rfl ?_); refine goesL_ (some 26) rfl rfl Try.func156 (by kernel_rfl) rfl #[.pointer (some ⟨g, 0, none⟩), .int .i64 a3, .int .i64 a4] rfl (by (try simp only [List.map_toArray, List.map_cons, List.map_nil]); first | done | rfl) ?_; (with_reducible refine (reaches_calls b a3 a4 g wr HG.out).mono ?_); rw [← HT.out]; rintro e w9 ⟨rfl, ⟨nd, rfl⟩⟩; refine ⟨_, rfl, ?_⟩))
      go_roundg k1
      case measure => omega
      case rel => exact ⟨n + 1, x1, x2, x13, rfl, rfl, rfl, (congrArg (Value.int .i64) hw.out), ⟨by have := HN.out; omega⟩, ⟨H1.out⟩, ⟨bDn HW.out _⟩⟩
    · cases s
      · replace H1 := aMk H1
        obtain ⟨j, hj⟩ : ∃ j, mx x1 (wrap64 (b.f0.f0 + b.f0.f2)) = j := ⟨_, rfl⟩
        have hj_ : (if x1 < (wrap64 (b.f0.f0 + b.f0.f2)) then (wrap64 (b.f0.f0 + b.f0.f2)) else x1) = j := hj
        go_wp2_with (first | ((with_reducible refine gate_callee (f := 156) rfl ?_); refine goesL_ (some 26) rfl rfl Try.func156 (by kernel_rfl) rfl #[.pointer (some ⟨g, 0, none⟩), .int .i64 a3, .int .i64 a4] rfl (by (try simp only [List.map_toArray, List.map_cons, List.map_nil]); first | done | rfl) ?_; (with_reducible refine (reaches_calls b a3 a4 g wr HG.out).mono ?_); rw [← HT.out]; rintro e w9 ⟨rfl, ⟨nd, rfl⟩⟩; refine ⟨_, rfl, ?_⟩))
        repeat (go_quiet (fail); try go_wp2)
        go_roundg k1
        case measure => omega
        case rel => exact ⟨n + 1, j, x2, true, (by first | rfl | (simp [hj_]; done)), rfl, rfl, (congrArg (Value.int .i64) hw.out), ⟨by have := HN.out; omega⟩, ⟨by rw [← hj]; exact H1.out⟩, ⟨by repeat (first | exact HW.out | apply bDn | apply bD1)⟩⟩
      · replace H1 := aMk H1
        obtain ⟨j, hj⟩ : ∃ j, mn x2 b.f0.f0 = j := ⟨_, rfl⟩
        have hj_ : (if b.f0.f0 < x2 then b.f0.f0 else x2) = j := hj
        go_wp2_with (first | ((with_reducible refine gate_callee (f := 156) rfl ?_); refine goesL_ (some 26) rfl rfl Try.func156 (by kernel_rfl) rfl #[.pointer (some ⟨g, 0, none⟩), .int .i64 a3, .int .i64 a4] rfl (by (try simp only [List.map_toArray, List.map_cons, List.map_nil]); first | done | rfl) ?_; (with_reducible refine (reaches_calls b a3 a4 g wr HG.out).mono ?_); rw [← HT.out]; rintro e w9 ⟨rfl, ⟨nd, rfl⟩⟩; refine ⟨_, rfl, ?_⟩))
        go_roundg k1
        case measure => omega
        case rel => exact ⟨n + 1, x1, j, true, rfl, (by first | rfl | (simp [hj_]; done)), rfl, (congrArg (Value.int .i64) hw.out), ⟨by have := HN.out; omega⟩, ⟨by rw [← hj]; exact H1.out⟩, ⟨by repeat (first | exact HW.out | apply bDn | apply bD1)⟩⟩
  · have c1 : decide ((n : Int) < ((bandsF l0).length : Int)) = false := decide_eq_false (by omega)
    have hn : n = (bandsF l0).length := by have := HN.out; omega
    have H1 := H.out
    rw [List.drop_eq_nil_of_le (by omega), roomL] at H1
    obtain ⟨rfl, h2⟩ := Prod.mk.inj H1
    obtain ⟨rfl, rfl⟩ := Prod.mk.inj h2
    clear H1 h2 H
    go_wp2
    go_ret3
    exact ⟨rfl, below_step HB.out HW.out⟩
def impl_room.f (l0 : List S38) (a1 a2 a3 a4 : Int) : Option (Int × Int × Bool) := if l0.length ≤ 17592186044415 then some (roomL (bandsF l0) a1 a2 false a3 a4) else none
theorem impl_room.calls (A0 : Option Addr) (c0 : Nat) (l0 : List S38) (a1 a2 a3 a4 : Int) (r1 r2 : Int) (r3 : Bool) (w : World) (hr0 : Kd.C k38 w A0 l0.length l0) (hc0 : l0.length ≤ c0) (h : impl_room.f l0 a1 a2 a3 a4 = some (r1, r2, r3)) :
 Calls Try.prog 121 #[.slice A0 l0.length c0, .int .i64 a1, .int .i64 a2, .int .i64 a3, .int .i64 a4] w fun e w' => e = .returned (.tuple #[.int .i64 r1, .int .i64 r2, .bool r3]) ∧ Below w.heap.size w w' := by
 unfold impl_room.f at h
 by_cases c : l0.length ≤ 17592186044415
 · rw [if_pos c] at h
   exact room_calls A0 c0 l0 a1 a2 a3 a4 r1 r2 r3 w hr0 hc0 c (Option.some.inj h)
 · rw [if_neg c] at h
   cases h

/-! ### impl_nextEnd: function 122, by hand -/
-- needs impl_room
def nextL : List S38 → Int → Int → Int
 | [], _, out => out
 | b :: bs, y, out => if y < wrap64 (b.f0.f1 + b.f0.f3) then (if out = y then nextL bs y (wrap64 (b.f0.f1 + b.f0.f3)) else if wrap64 (b.f0.f1 + b.f0.f3) < out then nextL bs y (wrap64 (b.f0.f1 + b.f0.f3)) else nextL bs y out) else nextL bs y out
set_option maxHeartbeats 8000000 in
set_option maxRecDepth 100000 in
theorem nextEnd_calls (A0 : Option Addr) (c0 : Nat) (l0 : List S38) (a1 : Int) (r : Int) (w : World) (hr0 : Kd.C k38 w A0 l0.length l0) (hc0 : l0.length ≤ c0) (hl : l0.length ≤ 17592186044415) (h : nextL (bandsF l0) a1 a1 = r) :
 Calls Try.prog 122 #[.slice A0 l0.length c0, .int .i64 a1] w fun e w' => e = .returned (.int .i64 r) ∧ Below w.heap.size w w' := by
 have HR0 := aMk hr0
 have HC0 := aMk hc0
 have HL := aMk hl
 have H := aMk h
 clear hr0 hc0 hl h
 go_enter Try.func122, Try.ntmps122
 go_wp2_with (first | ((with_reducible refine gate_callee (f := 155) rfl ?_); refine goesL_ (some 11) rfl rfl Try.func155 (by kernel_rfl) rfl #[.slice A0 l0.length c0] rfl (by (try simp only [List.map_toArray, List.map_cons, List.map_nil]); first | done | rfl) ?_; (with_reducible refine (bandsOf_calls A0 c0 l0 w HR0.out HC0.out HL.out).mono ?_); rintro e w8 ⟨v0, rfl, ho, hb⟩; refine ⟨_, rfl, ?_⟩; obtain ⟨A1, c1, rfl, hl1, hr1⟩ := Kd.R_reads ho; have HB := aMk hb; have HR1 := aMk hr1; clear hb hr1 ho hl1))
 have HM : Aside0 ((bandsF l0).length ≤ 17592186044415) := ⟨Nat.le_trans (List.length_filter_le _ _) HL.out⟩
 go_loopg [5, 13] (bandsF l0).length (fun kq v5 v13 w' => ∃ (n : Nat) (x5 : Int), v5 = .int .i64 x5 ∧ v13 = .int .i64 (n : Int) ∧ Aside0 (n + kq = (bandsF l0).length) ∧ Aside0 (nextL ((bandsF l0).drop n) a1 x5 = r) ∧ Aside0 (Below w8.heap.size w8 w'))
 case atStart => exact ⟨0, a1, rfl, rfl, ⟨by simp⟩, ⟨H.out⟩, ⟨Below.refl _ _⟩⟩
 case round =>
  clear H
  obtain ⟨n, x5, rfl, rfl, HN, H, HW⟩ := hrel
  by_cases c : n < (bandsF l0).length
  · have c1 : decide ((n : Int) < ((bandsF l0).length : Int)) = true := decide_eq_true (by omega)
    have p148 : 0 ≤ (n : Int) := by omega
    have q148 : (n : Int) < ((bandsF l0).length : Int) := by omega
    obtain ⟨ad, cs, eA, _, ⟨g, rfl, hg⟩, hcell⟩ := Kd.C_get (Kd.C_below HR1.out HW.out) z38 (n : Int) p148 q148
    have hcc := hcell 0 _ rfl
    rw [Int.toNat_natCast, show kBand.sz = 1 from rfl, Nat.mul_one, Nat.add_zero] at hcc
    clear hcell
    have eb : (bandsF l0).getD (n : Int).toNat z38 = (bandsF l0)[n] := by simp [List.getElem?_eq_getElem c]
    rw [eb] at hg
    have H1 := H.out
    rw [List.drop_eq_getElem_cons c] at H1
    clear H eb
    generalize (bandsF l0)[n] = b at hg H1
    rw [nextL] at H1
    cases eA
    have hw : wrap64 ((n : Int) + 1) = ((n + 1 : Nat) : Int) := by
     have := HM.out
     unfold wrap64
     omega
    replace hw := aMk hw
    replace p148 := eq_true p148
    replace q148 := eq_true q148
    have hk : gk ≠ 0 := by have := HN.out; omega
    obtain ⟨k1, rfl⟩ := Nat.exists_eq_succ_of_ne_zero hk
    clear hk
    have HC := aMk c
    clear c
    have hc1 : wr.cell? ⟨g, 1, none⟩ = some (.int .i64 b.f0.f1) := (bCe hg 1).trans rfl
    have hc3 : wr.cell? ⟨g, 3, none⟩ = some (.int .i64 b.f0.f3) := (bCe hg 3).trans rfl
    clear hg
    by_cases d : a1 < wrap64 (b.f0.f1 + b.f0.f3)
    · rw [if_pos d] at H1
      replace d := decide_eq_true d
      by_cases e : x5 = a1
      · rw [if_pos e] at H1
        have e1 : (x5 == a1) = true := beq_iff_eq.mpr e
        clear e
        replace H1 := aMk H1
        go_wp2
        repeat (go_quiet (fail); try go_wp2)
        go_roundg k1
        case measure => omega
        case rel => exact ⟨n + 1, _, rfl, (congrArg (Value.int .i64) hw.out), ⟨by have := HN.out; omega⟩, ⟨H1.out⟩, ⟨by repeat (first | exact HW.out | apply bDn | apply bD1)⟩⟩
      · rw [if_neg e] at H1
        have e1 : (x5 == a1) = false := beq_eq_false_iff_ne.mpr e
        clear e
        by_cases f : wrap64 (b.f0.f1 + b.f0.f3) < x5
        · rw [if_pos f] at H1
          replace f := decide_eq_true f
          replace H1 := aMk H1
          go_wp2
          repeat (go_quiet (fail); try go_wp2)
          go_roundg k1
          case measure => omega
          case rel => exact ⟨n + 1, _, rfl, (congrArg (Value.int .i64) hw.out), ⟨by have := HN.out; omega⟩, ⟨H1.out⟩, ⟨by repeat (first | exact HW.out | apply bDn | apply bD1)⟩⟩
        · rw [if_neg f] at H1
          replace f := decide_eq_false f
          replace H1 := aMk H1
          go_wp2
          repeat (go_quiet (fail); try go_wp2)
          go_roundg k1
          case measure => omega
          case rel => exact ⟨n + 1, _, rfl, (congrArg (Value.int .i64) hw.out), ⟨by have := HN.out; omega⟩, ⟨H1.out⟩, ⟨by repeat (first | exact HW.out | apply bDn | apply bD1)⟩⟩
    · rw [if_neg d] at H1
      replace d := decide_eq_false d
      replace H1 := aMk H1
      go_wp2
      repeat (go_quiet (fail); try go_wp2)
      go_roundg k1
      case measure => omega
      case rel => exact ⟨n + 1, _, rfl, (congrArg (Value.int .i64) hw.out), ⟨by have := HN.out; omega⟩, ⟨H1.out⟩, ⟨by repeat (first | exact HW.out | apply bDn | apply bD1)⟩⟩
  · have c1 : decide ((n : Int) < ((bandsF l0).length : Int)) = false := decide_eq_false (by omega)
    have hn : n = (bandsF l0).length := by have := HN.out; omega
    have H1 := H.out
    rw [List.drop_eq_nil_of_le (by omega), nextL] at H1
    subst H1
    clear H
    go_wp2
    go_ret
    exact ⟨rfl, below_step HB.out HW.out⟩
def impl_nextEnd.f (l0 : List S38) (a1 : Int) : Option Int := if l0.length ≤ 17592186044415 then some (nextL (bandsF l0) a1 a1) else none
theorem impl_nextEnd.calls (A0 : Option Addr) (c0 : Nat) (l0 : List S38) (a1 : Int) (r : Int) (w : World) (hr0 : Kd.C k38 w A0 l0.length l0) (hc0 : l0.length ≤ c0) (h : impl_nextEnd.f l0 a1 = some r) :
 Calls Try.prog 122 #[.slice A0 l0.length c0, .int .i64 a1] w fun e w' => e = .returned (.int .i64 r) ∧ Below w.heap.size w w' := by
 unfold impl_nextEnd.f at h
 by_cases c : l0.length ≤ 17592186044415
 · rw [if_pos c] at h
   exact nextEnd_calls A0 c0 l0 a1 r w hr0 hc0 c (Option.some.inj h)
 · rw [if_neg c] at h
   cases h

end Go.Proofs.Ytppjmcfcacgbdaa.MFnFloats
