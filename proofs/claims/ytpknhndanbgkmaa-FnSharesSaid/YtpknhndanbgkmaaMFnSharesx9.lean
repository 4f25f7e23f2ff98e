-- Written by this session's own program (wip/gen/myprint.py).
import Derived.Test.YtpknhndanbgkmaaMFnSharesx0
import Derived.Test.YtpknhndanbgkmaaMFnSharesx1
import Derived.Test.YtpknhndanbgkmaaMFnSharesx3
import Derived.Test.YtpknhndanbgkmaaMFnSharesx6
import Derived.Test.YtpknhndanbgkmaaMFnSharesx8
namespace Go.Proofs.Ytpknhndanbgkmaa.MFnShares
open Go.RowKit Go.Proofs.YtpknhndanbgkmaaW.PrintWords Go.Proofs.YtpknhndanbgkmaaW.PrintLast Go.Proofs.YtpknhndanbgkmaaW.PrintMore
attribute [local go_sem] max2_int min2_int max_two min_two max_three min_three max_four min_four   -- for this text's walks alone
set_option linter.unusedVariables false
set_option linter.unusedSimpArgs false
mutual
def spec_DrawSpread.l0 : Nat → List Int → Int → List Int → Int → Int → Option (Int × List Int)
 | 0, _, _, _, _, _ => none
 | k + 1, x5, x6, x181000, x181001, x181002 => if x6 > 0 then ((some (([0, 1, 2, 3, 7, 1000, 100000000000, 12345] : List Int) : List Int)).bind fun y187 => ((spec_l1Below.f x181000 x181001 x181002 8).bind fun bt190 => (if 0 ≤ bt190.1 then (if bt190.1 < (y187.length : Int) then (if x5.length < 17592186044416 then (spec_DrawSpread.l0 k (x5 ++ [rd y187 bt190.1]) (wrap64 (x6 - 1)) x181000 bt190.2.1 bt190.2.2) else (none)) else (none)) else (none)))) else ((some (([0, 1, 10, 100, 12345, 100000000000, 100000000001, (-1), 7] : List Int) : List Int)).bind fun y197 => ((spec_l1Below.f x181000 x181001 x181002 9).bind fun bt200 => (if 0 ≤ bt200.1 then (if bt200.1 < (y197.length : Int) then ((spec_l1Below.f x181000 bt200.2.1 bt200.2.2 40).bind fun bt204 => (if bt204.1 = 0 then ((some (([(-1), 100000000001] : List Int) : List Int)).bind fun y207 => ((spec_l1Below.f x181000 bt204.2.1 bt204.2.2 2).bind fun bt210 => (if 0 ≤ bt210.1 then (if bt210.1 < (y207.length : Int) then (if x5.length < 17592186044416 then (some (rd y197 bt200.1, (x5 ++ [rd y207 bt210.1]))) else (none)) else (none)) else (none)))) else (if bt204.1 = 1 then (spec_DrawSpread.l1 k x5 (rd y197 bt200.1) x181000 bt204.2.1 bt204.2.2) else (some (rd y197 bt200.1, x5))))) else (none)) else (none))))
def spec_DrawSpread.l1 : Nat → List Int → Int → List Int → Int → Int → Option (Int × List Int)
 | 0, _, _, _, _, _ => none
 | k + 1, x5, x7, x181000, x181001, x181002 => (spec_l1Below.f x181000 x181001 x181002 2).bind fun bt217 => (if (x5.length : Int) < (wrap64 (400 + bt217.1)) then (if x5.length < 17592186044416 then (spec_DrawSpread.l1 k (x5 ++ [1]) x7 x181000 bt217.2.1 bt217.2.2) else (none)) else (some (x7, x5)))
end
def spec_DrawSpread.f (k : Nat) (l0 : List Int) : Option (Int × List Int) := (spec_l1New.f k l0).bind fun bt177 => ((spec_l1Below.f bt177.1 bt177.2.1 bt177.2.2 12).bind fun bt184 => (spec_DrawSpread.l0 k (([] : List Int)) bt184.1 bt177.1 bt184.2.1 bt184.2.2))
set_option maxHeartbeats 8000000 in
set_option maxRecDepth 100000 in
theorem spec_DrawSpread.calls (k : Nat) (A0 : Option Addr) (c0 : Nat) (l0 : List Int) (r1 : Int) (r2 : List Int) (w : World) (hr0 : Kd.C (Kd.int .u8) w A0 l0.length l0) (hc0 : l0.length ≤ c0) (h : spec_DrawSpread.f k l0 = some (r1, r2)) :
 Calls Try.prog 46 #[.slice A0 l0.length c0] w fun e w' => ∃ v1_ : Value, e = .returned (.tuple #[.int .i64 r1, v1_]) ∧ Kd.R (Kd.int .i64) 3 w' w.heap.size (fun _ => True) v1_ r2 ∧ Below w.heap.size w w' := by
 have HR0 := aMk hr0
 have HC0 := aMk hc0
 clear hr0 hc0
 have HB := aMk (Below.refl w.heap.size w)
 have H : ((spec_l1New.f k l0).bind fun bt177 => ((spec_l1Below.f bt177.1 bt177.2.1 bt177.2.2 12).bind fun bt184 => (spec_DrawSpread.l0 k (([] : List Int)) bt184.1 bt177.1 bt184.2.1 bt184.2.2))) = some (r1, r2) := h
 clear h
 replace H := oBm H
 obtain ⟨⟨t177, t178, t179⟩, A20, H⟩ := H
 replace H : ((spec_l1Below.f t177 t178 t179 12).bind fun bt184 => (spec_DrawSpread.l0 k (([] : List Int)) bt184.1 t177 bt184.2.1 bt184.2.2)) = some (r1, r2) := H
 have A2 := aMk A20
 clear A20
 obtain ⟨y181, hy181⟩ : ∃ y_ : List Int, y_ = (([] : List Int)) := ⟨_, rfl⟩
 replace H : ((spec_l1Below.f t177 t178 t179 12).bind fun bt184 => (spec_DrawSpread.l0 k y181 bt184.1 t177 bt184.2.1 bt184.2.2)) = some (r1, r2) := by first | (rw [hy181]; with_reducible exact H) | (have H2_ := (Option.bind_some _ _).symm.trans H; rw [hy181]; with_reducible exact H2_) | (have H2_ := (Option.bind_some _ _).symm.trans H; with_reducible exact H2_) | with_reducible exact H | (rw [hy181]; exact H) | exact H
 have Ny181 := aMk hy181
 clear hy181
 replace H := oBm H
 obtain ⟨⟨t184, t185, t186⟩, A30, H⟩ := H
 replace H : (spec_DrawSpread.l0 k y181 t184 t177 t185 t186) = some (r1, r2) := H
 have A3 := aMk A30
 clear A30
 have H' := aMk H
 clear H
 go_enter Try.func46, Try.ntmps46
 go_wp2_with (first | ((with_reducible refine gate_callee (f := 65) rfl ?_); refine goesL_ (some 9) rfl rfl Try.func65 (by kernel_rfl) rfl #[.slice A0 l0.length c0] rfl (by (try simp only [List.map_toArray, List.map_cons, List.map_nil]); first | done | rfl | (simp only [List.length_drop, List.length_take]; rfl)) ?_; (with_reducible refine (spec_l1New.calls k _ _ l0 t177 t178 t179 w _ ?side1 ?side2 ?side3 A2.out).mono ?_); (case side1 => repeat (first | (with_reducible first | exact HB.out | apply bAl | apply bDn | apply bD1) | exact HB.out)); (case side2 => exact HR0.out); (case side3 => exact HC0.out); rintro e w4 ⟨g180, rfl, hi, hb, hb2⟩; refine ⟨_, rfl, ?_⟩; have n0_ := aMk (hb); have n1_ := aMk (hi); clear HB; have HB := n0_; have HI180 := n1_; clear n0_ n1_; (try clear hb); (try clear hb2); (try clear hk); (try clear hi)) | ((with_reducible refine gate_dst (N := 10) rfl ?_); refine Kd.R_lit (Kd.int .i64) _ 3 ?hg (N := 10) ?hd (xs := ([] : List Int)) (inner := []) (ok := fun _ => True) (okp := fun _ => True) ?hr ?hp (fun _ hk => hk) trivial (Below.refl _ _) (Nat.le_refl _) (by simp) ?_; (case hd => rfl); (case hg => rfl); (case hr => first | (go_simp; done) | (go_simp; rfl)); (case hp => exact (Reps.none _ _)); intro v182 w5 ho6 hb hg_ hnew_; clear hg_ hnew_; (first | rw [← Ny181.out] at ho6 | (simp only [Int.reduceToNat] at ho6; rw [← Ny181.out] at ho6)); have n0_ := aMk (Kd.R_lower ho6 (below_size (by repeat (first | (with_reducible first | exact HB.out | apply bAl | apply bDn | apply bD1 | refine bSe ?_ (IsS122.ge HI180.out)) | exact HB.out)))); have n1_ := aMk (IsS122.below (by repeat (first | (with_reducible first | exact HI180.out | apply IsS122.alloc | apply IsS122.drewN | apply IsS122.drew | apply IsS122.set_1 | apply IsS122.set_2) | exact HI180.out)) hb); have n2_ := aMk (below_step (by repeat (first | (with_reducible first | exact HB.out | apply bAl | apply bDn | apply bD1 | refine bSe ?_ (IsS122.ge HI180.out)) | exact HB.out)) hb); clear HI180; clear HB; have HO183 := n0_; have HI180 := n1_; have HB := n2_; clear n0_ n1_ n2_; clear hb ho6) | ((with_reducible refine gate_callee (f := 67) rfl ?_); refine goesL_ (some 12) rfl rfl Try.func67 (by kernel_rfl) rfl #[.pointer (some ⟨g180, 0, none⟩), .int .i64 12] rfl (by (try simp only [List.map_toArray, List.map_cons, List.map_nil]); first | done | rfl | (simp only [List.length_drop, List.length_take]; rfl)) ?_; (with_reducible refine (spec_l1Below.calls g180 t177 t178 t179 12 t184 t185 t186 w _ ?side1 ?side2 A3.out).mono ?_); (case side1 => repeat (first | (with_reducible first | exact HI180.out | apply IsS122.alloc | apply IsS122.drewN | apply IsS122.drew | apply IsS122.set_1 | apply IsS122.set_2) | exact HI180.out)); (case side2 => repeat (first | (with_reducible first | exact HB.out | apply bAl | apply bDn | apply bD1 | refine bSe ?_ (IsS122.ge HI180.out)) | exact HB.out)); rintro e w7 ⟨rfl, hi, hb, hk⟩; refine ⟨_, rfl, ?_⟩; have n0_ := aMk (Kd.R_mono (Kd.R_keep (IsS122.apart (show IsS122 w _ g180 t177 t178 t179 from by repeat (first | (with_reducible first | exact HI180.out | apply IsS122.alloc | apply IsS122.drewN | apply IsS122.drew | apply IsS122.set_1 | apply IsS122.set_2) | exact HI180.out)) (by (with_reducible repeat (first | apply Kd.R_alloc | apply Kd.R_drewN | apply Kd.R_drew)); exact HO183.out) (by decide)) hk (fun _ h => h.2)) (fun _ h => h.1)); have n1_ := aMk (hb); have n2_ := aMk (hi); clear HO183; clear HB; clear HI180; have HO183 := n0_; have HB := n1_; have HI180 := n2_; clear n0_ n1_ n2_; (try clear hb); (try clear hb2); (try clear hk); (try clear hi)))
 go_loopg [5, 6] k (fun kq v5 v6 w' => ∃ (x5_1 : List Int) (x6_1 : Int) (x181001_1 : Int) (x181002_1 : Int), v6 = .int .i64 x6_1 ∧ Aside0 (spec_DrawSpread.l0 kq x5_1 x6_1 t177 x181001_1 x181002_1 = some (r1, r2)) ∧ Aside0 (kq ≤ k) ∧ Aside0 (Kd.R (Kd.int .i64) 3 w' w.heap.size (fun _ => True) v5 x5_1) ∧ Aside0 (IsS122 w w' g180 t177 x181001_1 x181002_1) ∧ Aside0 (Below w.heap.size w w'))
 case atStart => exact ⟨(y181), (t184), (t185), (t186), (by first | rfl | (simp; done) | (simp [*]; done)), H', ⟨Nat.le_refl _⟩, ⟨by (with_reducible repeat (first | apply Kd.R_alloc | apply Kd.R_drewN | apply Kd.R_drew)); exact HO183.out⟩, ⟨by repeat (first | (with_reducible first | exact HI180.out | apply IsS122.alloc | apply IsS122.drewN | apply IsS122.drew | apply IsS122.set_1 | apply IsS122.set_2) | exact HI180.out)⟩, ⟨by repeat (first | (with_reducible first | exact HB.out | apply bAl | apply bDn | apply bD1 | refine bSe ?_ (IsS122.ge HI180.out)) | exact HB.out)⟩⟩
 case round =>
  clear H'
  try clear p2
  try clear c4
  try clear c6
  obtain ⟨x5_1, x6_1, x181001_1, x181002_1, rfl, HA, HK1, HO_5, HI180, HB⟩ := hrel
  cases gk with
  | zero => exact absurd HA.out (by simp [spec_DrawSpread.l0])
  | succ k1 =>
   have H := HA.out
   clear HA
   simp only [spec_DrawSpread.l0] at H
   by_cases c8 : x6_1 > 0
   · rw [if_pos c8] at H
     have c8b0 : decide (0 < x6_1) = true := decide_eq_true c8
     clear c8
     obtain ⟨y187, hy187⟩ : ∃ y_ : List Int, y_ = (([0, 1, 2, 3, 7, 1000, 100000000000, 12345] : List Int)) := ⟨_, rfl⟩
     replace H : ((spec_l1Below.f t177 x181001_1 x181002_1 8).bind fun bt190 => (if 0 ≤ bt190.1 then (if bt190.1 < (y187.length : Int) then (if x5_1.length < 17592186044416 then (spec_DrawSpread.l0 k1 (x5_1 ++ [rd y187 bt190.1]) (wrap64 (x6_1 - 1)) t177 bt190.2.1 bt190.2.2) else (none)) else (none)) else (none))) = some (r1, r2) := by first | (rw [hy187]; with_reducible exact H) | (have H2_ := (Option.bind_some _ _).symm.trans H; rw [hy187]; with_reducible exact H2_) | (have H2_ := (Option.bind_some _ _).symm.trans H; with_reducible exact H2_) | with_reducible exact H | (rw [hy187]; exact H) | exact H
     have Ny187 := aMk hy187
     clear hy187
     replace H := oBm H
     obtain ⟨⟨t190, t191, t192⟩, A90, H⟩ := H
     replace H : (if 0 ≤ t190 then (if t190 < (y187.length : Int) then (if x5_1.length < 17592186044416 then (spec_DrawSpread.l0 k1 (x5_1 ++ [rd y187 t190]) (wrap64 (x6_1 - 1)) t177 t191 t192) else (none)) else (none)) else (none)) = some (r1, r2) := H
     have A9 := aMk A90
     clear A90
     by_cases c10 : 0 ≤ t190
     · rw [if_pos c10] at H
       have c10b0 : decide (0 ≤ t190) = true := decide_eq_true c10
       clear c10
       by_cases c11 : t190 < (y187.length : Int)
       · rw [if_pos c11] at H
         have c11b0 : decide (t190 < (y187.length : Int)) = true := decide_eq_true c11
         clear c11
         by_cases c12 : x5_1.length < 17592186044416
         · rw [if_pos c12] at H
           have LMc12 := aMk c12
           clear c12
           obtain ⟨y194, hy194⟩ : ∃ y_ : List Int, y_ = (x5_1 ++ [rd y187 t190]) := ⟨_, rfl⟩
           replace H : (spec_DrawSpread.l0 k1 y194 (wrap64 (x6_1 - 1)) t177 t191 t192) = some (r1, r2) := by first | (rw [hy194]; with_reducible exact H) | (have H2_ := (Option.bind_some _ _).symm.trans H; rw [hy194]; with_reducible exact H2_) | (have H2_ := (Option.bind_some _ _).symm.trans H; with_reducible exact H2_) | with_reducible exact H | (rw [hy194]; exact H) | exact H
           have Ny194 := aMk hy194
           clear hy194
           have H' := aMk H
           clear H
           go_wp2_with (first | ((with_reducible refine gate_dst (N := 18) rfl ?_); refine Kd.R_lit (Kd.int .i64) _ 3 ?hg (N := 18) ?hd (xs := ([0, 1, 2, 3, 7, 1000, 100000000000, 12345] : List Int)) (inner := [.int .i64 0, .int .i64 1, .int .i64 2, .int .i64 3, .int .i64 7, .int .i64 1000, .int .i64 100000000000, .int .i64 12345]) (ok := fun _ => True) (okp := fun _ => True) ?hr ?hp (fun _ hk => hk) trivial (Below.refl _ _) (Nat.le_refl _) (by simp) ?_; (case hd => rfl); (case hg => rfl); (case hr => first | (go_simp; done) | (go_simp; rfl)); (case hp => exact (Reps.one (show Kd.M (Kd.int .i64) _ _ _ 0 [.int .i64 0] from rfl) (Reps.one (show Kd.M (Kd.int .i64) _ _ _ 1 [.int .i64 1] from rfl) (Reps.one (show Kd.M (Kd.int .i64) _ _ _ 2 [.int .i64 2] from rfl) (Reps.one (show Kd.M (Kd.int .i64) _ _ _ 3 [.int .i64 3] from rfl) (Reps.one (show Kd.M (Kd.int .i64) _ _ _ 7 [.int .i64 7] from rfl) (Reps.one (show Kd.M (Kd.int .i64) _ _ _ 1000 [.int .i64 1000] from rfl) (Reps.one (show Kd.M (Kd.int .i64) _ _ _ 100000000000 [.int .i64 100000000000] from rfl) (Reps.one (show Kd.M (Kd.int .i64) _ _ _ 12345 [.int .i64 12345] from rfl) (Reps.none _ _)))))))))); intro v188 w13 ho14 hb hg_ hnew_; clear hg_ hnew_; (first | rw [← Ny187.out] at ho14 | (simp only [Int.reduceToNat] at ho14; rw [← Ny187.out] at ho14)); have n0_ := aMk (Kd.R_elder' (by (with_reducible repeat (first | apply Kd.R_alloc | apply Kd.R_drewN | apply Kd.R_drew)); exact HO_5.out) (Kd.R_base ho14) hb); have n1_ := aMk (Kd.R_lower (Kd.R_new' ho14 (Kd.R_lt (by (with_reducible repeat (first | apply Kd.R_alloc | apply Kd.R_drewN | apply Kd.R_drew)); exact HO_5.out))) (below_size (by repeat (first | (with_reducible first | exact HB.out | apply bAl | apply bDn | apply bD1 | refine bSe ?_ (IsS122.ge HI180.out)) | exact HB.out)))); have n2_ := aMk (IsS122.below (by repeat (first | (with_reducible first | exact HI180.out | apply IsS122.alloc | apply IsS122.drewN | apply IsS122.drew | apply IsS122.set_1 | apply IsS122.set_2) | exact HI180.out)) hb); have n3_ := aMk (below_step (by repeat (first | (with_reducible first | exact HB.out | apply bAl | apply bDn | apply bD1 | refine bSe ?_ (IsS122.ge HI180.out)) | exact HB.out)) hb); clear HO_5; clear HI180; clear HB; have HO_5 := n0_; have HO189 := n1_; have HI180 := n2_; have HB := n3_; clear n0_ n1_ n2_ n3_; clear hb ho14) | ((with_reducible refine gate_callee (f := 67) rfl ?_); refine goesL_ (some 20) rfl rfl Try.func67 (by kernel_rfl) rfl #[.pointer (some ⟨g180, 0, none⟩), .int .i64 8] rfl (by (try simp only [List.map_toArray, List.map_cons, List.map_nil]); first | done | rfl | (simp only [List.length_drop, List.length_take]; rfl)) ?_; (with_reducible refine (spec_l1Below.calls g180 t177 x181001_1 x181002_1 8 t190 t191 t192 w _ ?side1 ?side2 A9.out).mono ?_); (case side1 => repeat (first | (with_reducible first | exact HI180.out | apply IsS122.alloc | apply IsS122.drewN | apply IsS122.drew | apply IsS122.set_1 | apply IsS122.set_2) | exact HI180.out)); (case side2 => repeat (first | (with_reducible first | exact HB.out | apply bAl | apply bDn | apply bD1 | refine bSe ?_ (IsS122.ge HI180.out)) | exact HB.out)); rintro e w15 ⟨rfl, hi, hb, hk⟩; refine ⟨_, rfl, ?_⟩; have n0_ := aMk (Kd.R_mono (Kd.R_keep (IsS122.apart (show IsS122 w _ g180 t177 x181001_1 x181002_1 from by repeat (first | (with_reducible first | exact HI180.out | apply IsS122.alloc | apply IsS122.drewN | apply IsS122.drew | apply IsS122.set_1 | apply IsS122.set_2) | exact HI180.out)) (by (with_reducible repeat (first | apply Kd.R_alloc | apply Kd.R_drewN | apply Kd.R_drew)); exact HO_5.out) (by decide)) hk (fun _ h => h.2)) (fun _ h => h.1)); have n1_ := aMk (Kd.R_mono (Kd.R_keep (IsS122.apart (show IsS122 w _ g180 t177 x181001_1 x181002_1 from by repeat (first | (with_reducible first | exact HI180.out | apply IsS122.alloc | apply IsS122.drewN | apply IsS122.drew | apply IsS122.set_1 | apply IsS122.set_2) | exact HI180.out)) (by (with_reducible repeat (first | apply Kd.R_alloc | apply Kd.R_drewN | apply Kd.R_drew)); exact HO189.out) (by decide)) hk (fun _ h => h.2)) (fun _ h => h.1)); have n2_ := aMk (hb); have n3_ := aMk (hi); clear HO_5; clear HO189; clear HB; clear HI180; have HO_5 := n0_; have HO189 := n1_; have HB := n2_; have HI180 := n3_; clear n0_ n1_ n2_ n3_; (try clear hb); (try clear hb2); (try clear hk); (try clear hi); obtain ⟨Ao16, co16, eo16⟩ := Kd.R_slice HO189.out; subst eo16; have p193 : 0 ≤ (t190 : Int) := oDt (by first | (with_reducible assumption) | assumption); have q193 : t190 < (y187.length : Int) := oDt (by first | (with_reducible assumption) | assumption); obtain ⟨ad193, e193, hx193_0⟩ := Kd.at_int (Kd.R_reads' HO189.out).2.2 t190 p193 q193; cases e193; replace p193 := eq_true p193; replace q193 := eq_true q193) | ((with_reducible refine gate_builtin (b := .append) (xs := #[.tmp 17, .tmp 23]) rfl ?_); at_builtin; refine Kd.R_append (Kd.int .i64) (w0 := w) w.heap.size rfl (.tmp 17) (.tmp 23) 22 3 (.int .i64 0) 8 rfl Try.underlying22 info3 rfl (by decide) (by omega) u5 x5_1 (rd y187 t190) [.int .i64 (rd y187 t190)] (fun k_ => some k_ ≠ (.slice (some ad193) y187.length co16 : Value).ownBlock) (fun _ => False) rfl rfl ?aP (fun _ hk => hk.elim) ?aF ?aO ?aB ?aS ?aL ?_; (case aP => exact rfl); (case aB => exact (by repeat (first | (with_reducible first | exact HB.out | apply bAl | apply bDn | apply bD1 | refine bSe ?_ (IsS122.ge HI180.out)) | exact HB.out))); (case aF => exact (fun k_ hk => Kd.fresh' (Kd.R_lt (by (with_reducible repeat (first | apply Kd.R_alloc | apply Kd.R_drewN | apply Kd.R_drew)); exact HO189.out)) k_ hk)); (case aO => exact (by (with_reducible repeat (first | apply Kd.R_alloc | apply Kd.R_drewN | apply Kd.R_drew)); exact Kd.R_mono HO_5.out (fun _ hk => hk.2))); (case aS => exact (below_size (by repeat (first | (with_reducible first | exact HB.out | apply bAl | apply bDn | apply bD1 | refine bSe ?_ (IsS122.ge HI180.out)) | exact HB.out)))); (case aL => have := LMc12.out; omega); intro v195 w17 ho hb hg hat; rw [← Ny194.out] at ho; have n0_ := aMk (IsS122.grown (IsS122.like HI180.out (by repeat (first | (with_reducible first | exact HI180.out | apply IsS122.alloc | apply IsS122.drewN | apply IsS122.drew | apply IsS122.set_1 | apply IsS122.set_2) | exact HI180.out))) hg (IsS122.own_ne HI180.out HO_5.out (by decide))); have n1_ := aMk (Kd.R_after (ok := (fun _ => True)) (by (with_reducible repeat (first | apply Kd.R_alloc | apply Kd.R_drewN | apply Kd.R_drew)); exact HO189.out) hg hat); have n2_ := aMk (hb); have n3_ := aMk (ho); clear HI180; clear HO189; clear HB; clear HO_5; have HI180 := n0_; have HO189 := n1_; have HB := n2_; have HO196 := n3_; clear n0_ n1_ n2_ n3_; clear ho hb hg hat))
           go_roundg k1
           case measure => have := HK1.out; omega
           case rel => exact ⟨(y194), (wrap64 (x6_1 - 1)), (t191), (t192), (by first | rfl | (simp; done) | (simp [*]; done)), H', ⟨by have := HK1.out; omega⟩, ⟨by (with_reducible repeat (first | apply Kd.R_alloc | apply Kd.R_drewN | apply Kd.R_drew)); exact Kd.R_mono HO196.out (fun _ hk => trivial)⟩, ⟨by repeat (first | (with_reducible first | exact HI180.out | apply IsS122.alloc | apply IsS122.drewN | apply IsS122.drew | apply IsS122.set_1 | apply IsS122.set_2) | exact HI180.out)⟩, ⟨by repeat (first | (with_reducible first | exact HB.out | apply bAl | apply bDn | apply bD1 | refine bSe ?_ (IsS122.ge HI180.out)) | exact HB.out)⟩⟩
         · rw [if_neg c12] at H
           exact absurd H (by simp)
       · rw [if_neg c11] at H
         exact absurd H (by simp)
     · rw [if_neg c10] at H
       exact absurd H (by simp)
   · rw [if_neg c8] at H
     have c8b0 : decide (0 < x6_1) = false := decide_eq_false c8
     clear c8
     obtain ⟨y197, hy197⟩ : ∃ y_ : List Int, y_ = (([0, 1, 10, 100, 12345, 100000000000, 100000000001, (-1), 7] : List Int)) := ⟨_, rfl⟩
     replace H : ((spec_l1Below.f t177 x181001_1 x181002_1 9).bind fun bt200 => (if 0 ≤ bt200.1 then (if bt200.1 < (y197.length : Int) then ((spec_l1Below.f t177 bt200.2.1 bt200.2.2 40).bind fun bt204 => (if bt204.1 = 0 then ((some (([(-1), 100000000001] : List Int) : List Int)).bind fun y207 => ((spec_l1Below.f t177 bt204.2.1 bt204.2.2 2).bind fun bt210 => (if 0 ≤ bt210.1 then (if bt210.1 < (y207.length : Int) then (if x5_1.length < 17592186044416 then (some (rd y197 bt200.1, (x5_1 ++ [rd y207 bt210.1]))) else (none)) else (none)) else (none)))) else (if bt204.1 = 1 then (spec_DrawSpread.l1 k1 x5_1 (rd y197 bt200.1) t177 bt204.2.1 bt204.2.2) else (some (rd y197 bt200.1, x5_1))))) else (none)) else (none))) = some (r1, r2) := by first | (rw [hy197]; with_reducible exact H) | (have H2_ := (Option.bind_some _ _).symm.trans H; rw [hy197]; with_reducible exact H2_) | (have H2_ := (Option.bind_some _ _).symm.trans H; with_reducible exact H2_) | with_reducible exact H | (rw [hy197]; exact H) | exact H
     have Ny197 := aMk hy197
     clear hy197
     replace H := oBm H
     obtain ⟨⟨t200, t201, t202⟩, A180, H⟩ := H
     replace H : (if 0 ≤ t200 then (if t200 < (y197.length : Int) then ((spec_l1Below.f t177 t201 t202 40).bind fun bt204 => (if bt204.1 = 0 then ((some (([(-1), 100000000001] : List Int) : List Int)).bind fun y207 => ((spec_l1Below.f t177 bt204.2.1 bt204.2.2 2).bind fun bt210 => (if 0 ≤ bt210.1 then (if bt210.1 < (y207.length : Int) then (if x5_1.length < 17592186044416 then (some (rd y197 t200, (x5_1 ++ [rd y207 bt210.1]))) else (none)) else (none)) else (none)))) else (if bt204.1 = 1 then (spec_DrawSpread.l1 k1 x5_1 (rd y197 t200) t177 bt204.2.1 bt204.2.2) else (some (rd y197 t200, x5_1))))) else (none)) else (none)) = some (r1, r2) := H
     have A18 := aMk A180
     clear A180
     by_cases c19 : 0 ≤ t200
     · rw [if_pos c19] at H
       have c19b0 : decide (0 ≤ t200) = true := decide_eq_true c19
       clear c19
       by_cases c20 : t200 < (y197.length : Int)
       · rw [if_pos c20] at H
         have c20b0 : decide (t200 < (y197.length : Int)) = true := decide_eq_true c20
         clear c20
         replace H := oBm H
         obtain ⟨⟨t204, t205, t206⟩, A210, H⟩ := H
         replace H : (if t204 = 0 then ((some (([(-1), 100000000001] : List Int) : List Int)).bind fun y207 => ((spec_l1Below.f t177 t205 t206 2).bind fun bt210 => (if 0 ≤ bt210.1 then (if bt210.1 < (y207.length : Int) then (if x5_1.length < 17592186044416 then (some (rd y197 t200, (x5_1 ++ [rd y207 bt210.1]))) else (none)) else (none)) else (none)))) else (if t204 = 1 then (spec_DrawSpread.l1 k1 x5_1 (rd y197 t200) t177 t205 t206) else (some (rd y197 t200, x5_1)))) = some (r1, r2) := H
         have A21 := aMk A210
         clear A210
         by_cases c22 : t204 = 0
         · rw [if_pos c22] at H
           have c22b0 : (t204 == 0) = true := beq_iff_eq.mpr c22
           have c22b1 : (t204 != 0) = false := bne_eq_false_iff_eq.mpr c22
           clear c22
           obtain ⟨y207, hy207⟩ : ∃ y_ : List Int, y_ = (([(-1), 100000000001] : List Int)) := ⟨_, rfl⟩
           replace H : ((spec_l1Below.f t177 t205 t206 2).bind fun bt210 => (if 0 ≤ bt210.1 then (if bt210.1 < (y207.length : Int) then (if x5_1.length < 17592186044416 then (some (rd y197 t200, (x5_1 ++ [rd y207 bt210.1]))) else (none)) else (none)) else (none))) = some (r1, r2) := by first | (rw [hy207]; with_reducible exact H) | (have H2_ := (Option.bind_some _ _).symm.trans H; rw [hy207]; with_reducible exact H2_) | (have H2_ := (Option.bind_some _ _).symm.trans H; with_reducible exact H2_) | with_reducible exact H | (rw [hy207]; exact H) | exact H
           have Ny207 := aMk hy207
           clear hy207
           replace H := oBm H
           obtain ⟨⟨t210, t211, t212⟩, A230, H⟩ := H
           replace H : (if 0 ≤ t210 then (if t210 < (y207.length : Int) then (if x5_1.length < 17592186044416 then (some (rd y197 t200, (x5_1 ++ [rd y207 t210]))) else (none)) else (none)) else (none)) = some (r1, r2) := H
           have A23 := aMk A230
           clear A230
           by_cases c24 : 0 ≤ t210
           · rw [if_pos c24] at H
             have c24b0 : decide (0 ≤ t210) = true := decide_eq_true c24
             clear c24
             by_cases c25 : t210 < (y207.length : Int)
             · rw [if_pos c25] at H
               have c25b0 : decide (t210 < (y207.length : Int)) = true := decide_eq_true c25
               clear c25
               by_cases c26 : x5_1.length < 17592186044416
               · rw [if_pos c26] at H
                 have LMc26 := aMk c26
                 clear c26
                 obtain ⟨y214, hy214⟩ : ∃ y_ : List Int, y_ = (x5_1 ++ [rd y207 t210]) := ⟨_, rfl⟩
                 replace H : (some (rd y197 t200, y214)) = some (r1, r2) := by first | (rw [hy214]; with_reducible exact H) | (have H2_ := (Option.bind_some _ _).symm.trans H; rw [hy214]; with_reducible exact H2_) | (have H2_ := (Option.bind_some _ _).symm.trans H; with_reducible exact H2_) | with_reducible exact H | (rw [hy214]; exact H) | exact H
                 have Ny214 := aMk hy214
                 clear hy214
                 simp only [Option.some.injEq, Prod.mk.injEq] at H
                 obtain ⟨rfl, rfl⟩ := H
                 go_wp2_with (first | ((with_reducible refine gate_dst (N := 25) rfl ?_); refine Kd.R_lit (Kd.int .i64) _ 3 ?hg (N := 25) ?hd (xs := ([0, 1, 10, 100, 12345, 100000000000, 100000000001, (-1), 7] : List Int)) (inner := [.int .i64 0, .int .i64 1, .int .i64 10, .int .i64 100, .int .i64 12345, .int .i64 100000000000, .int .i64 100000000001, .int .i64 (-1), .int .i64 7]) (ok := fun _ => True) (okp := fun _ => True) ?hr ?hp (fun _ hk => hk) trivial (Below.refl _ _) (Nat.le_refl _) (by simp) ?_; (case hd => rfl); (case hg => rfl); (case hr => first | (go_simp; done) | (go_simp; rfl)); (case hp => exact (Reps.one (show Kd.M (Kd.int .i64) _ _ _ 0 [.int .i64 0] from rfl) (Reps.one (show Kd.M (Kd.int .i64) _ _ _ 1 [.int .i64 1] from rfl) (Reps.one (show Kd.M (Kd.int .i64) _ _ _ 10 [.int .i64 10] from rfl) (Reps.one (show Kd.M (Kd.int .i64) _ _ _ 100 [.int .i64 100] from rfl) (Reps.one (show Kd.M (Kd.int .i64) _ _ _ 12345 [.int .i64 12345] from rfl) (Reps.one (show Kd.M (Kd.int .i64) _ _ _ 100000000000 [.int .i64 100000000000] from rfl) (Reps.one (show Kd.M (Kd.int .i64) _ _ _ 100000000001 [.int .i64 100000000001] from rfl) (Reps.one (show Kd.M (Kd.int .i64) _ _ _ (-1) [.int .i64 (-1)] from rfl) (Reps.one (show Kd.M (Kd.int .i64) _ _ _ 7 [.int .i64 7] from rfl) (Reps.none _ _))))))))))); intro v198 w27 ho28 hb hg_ hnew_; clear hg_ hnew_; (first | rw [← Ny197.out] at ho28 | (simp only [Int.reduceToNat] at ho28; rw [← Ny197.out] at ho28)); have n0_ := aMk (Kd.R_elder' (by (with_reducible repeat (first | apply Kd.R_alloc | apply Kd.R_drewN | apply Kd.R_drew)); exact HO_5.out) (Kd.R_base ho28) hb); have n1_ := aMk (Kd.R_lower (Kd.R_new' ho28 (Kd.R_lt (by (with_reducible repeat (first | apply Kd.R_alloc | apply Kd.R_drewN | apply Kd.R_drew)); exact HO_5.out))) (below_size (by repeat (first | (with_reducible first | exact HB.out | apply bAl | apply bDn | apply bD1 | refine bSe ?_ (IsS122.ge HI180.out)) | exact HB.out)))); have n2_ := aMk (IsS122.below (by repeat (first | (with_reducible first | exact HI180.out | apply IsS122.alloc | apply IsS122.drewN | apply IsS122.drew | apply IsS122.set_1 | apply IsS122.set_2) | exact HI180.out)) hb); have n3_ := aMk (below_step (by repeat (first | (with_reducible first | exact HB.out | apply bAl | apply bDn | apply bD1 | refine bSe ?_ (IsS122.ge HI180.out)) | exact HB.out)) hb); clear HO_5; clear HI180; clear HB; have HO_5 := n0_; have HO199 := n1_; have HI180 := n2_; have HB := n3_; clear n0_ n1_ n2_ n3_; clear hb ho28) | ((with_reducible refine gate_callee (f := 67) rfl ?_); refine goesL_ (some 27) rfl rfl Try.func67 (by kernel_rfl) rfl #[.pointer (some ⟨g180, 0, none⟩), .int .i64 9] rfl (by (try simp only [List.map_toArray, List.map_cons, List.map_nil]); first | done | rfl | (simp only [List.length_drop, List.length_take]; rfl)) ?_; (with_reducible refine (spec_l1Below.calls g180 t177 x181001_1 x181002_1 9 t200 t201 t202 w _ ?side1 ?side2 A18.out).mono ?_); (case side1 => repeat (first | (with_reducible first | exact HI180.out | apply IsS122.alloc | apply IsS122.drewN | apply IsS122.drew | apply IsS122.set_1 | apply IsS122.set_2) | exact HI180.out)); (case side2 => repeat (first | (with_reducible first | exact HB.out | apply bAl | apply bDn | apply bD1 | refine bSe ?_ (IsS122.ge HI180.out)) | exact HB.out)); rintro e w29 ⟨rfl, hi, hb, hk⟩; refine ⟨_, rfl, ?_⟩; have n0_ := aMk (Kd.R_mono (Kd.R_keep (IsS122.apart (show IsS122 w _ g180 t177 x181001_1 x181002_1 from by repeat (first | (with_reducible first | exact HI180.out | apply IsS122.alloc | apply IsS122.drewN | apply IsS122.drew | apply IsS122.set_1 | apply IsS122.set_2) | exact HI180.out)) (by (with_reducible repeat (first | apply Kd.R_alloc | apply Kd.R_drewN | apply Kd.R_drew)); exact HO_5.out) (by decide)) hk (fun _ h => h.2)) (fun _ h => h.1)); have n1_ := aMk (Kd.R_mono (Kd.R_keep (IsS122.apart (show IsS122 w _ g180 t177 x181001_1 x181002_1 from by repeat (first | (with_reducible first | exact HI180.out | apply IsS122.alloc | apply IsS122.drewN | apply IsS122.drew | apply IsS122.set_1 | apply IsS122.set_2) | exact HI180.out)) (by (with_reducible repeat (first | apply Kd.R_alloc | apply Kd.R_drewN | apply Kd.R_drew)); exact HO199.out) (by decide)) hk (fun _ h => h.2)) (fun _ h => h.1)); have n2_ := aMk (hb); have n3_ := aMk (hi); clear HO_5; clear HO199; clear HB; clear HI180; have HO_5 := n0_; have HO199 := n1_; have HB := n2_; have HI180 := n3_; clear n0_ n1_ n2_ n3_; (try clear hb); (try clear hb2); (try clear hk); (try clear hi); obtain ⟨Ao30, co30, eo30⟩ := Kd.R_slice HO199.out; subst eo30; have p203 : 0 ≤ (t200 : Int) := oDt (by first | (with_reducible assumption) | assumption); have q203 : t200 < (y197.length : Int) := oDt (by first | (with_reducible assumption) | assumption); obtain ⟨ad203, e203, hx203_0⟩ := Kd.at_int (Kd.R_reads' HO199.out).2.2 t200 p203 q203; cases e203; replace p203 := eq_true p203; replace q203 := eq_true q203) | ((with_reducible refine gate_callee (f := 67) rfl ?_); refine goesL_ (some 31) rfl rfl Try.func67 (by kernel_rfl) rfl #[.pointer (some ⟨g180, 0, none⟩), .int .i64 40] rfl (by (try simp only [List.map_toArray, List.map_cons, List.map_nil]); first | done | rfl | (simp only [List.length_drop, List.length_take]; rfl)) ?_; (with_reducible refine (spec_l1Below.calls g180 t177 t201 t202 40 t204 t205 t206 w _ ?side1 ?side2 A21.out).mono ?_); (case side1 => repeat (first | (with_reducible first | exact HI180.out | apply IsS122.alloc | apply IsS122.drewN | apply IsS122.drew | apply IsS122.set_1 | apply IsS122.set_2) | exact HI180.out)); (case side2 => repeat (first | (with_reducible first | exact HB.out | apply bAl | apply bDn | apply bD1 | refine bSe ?_ (IsS122.ge HI180.out)) | exact HB.out)); rintro e w31 ⟨rfl, hi, hb, hk⟩; refine ⟨_, rfl, ?_⟩; have n0_ := aMk (Kd.R_mono (Kd.R_keep (IsS122.apart (show IsS122 w _ g180 t177 t201 t202 from by repeat (first | (with_reducible first | exact HI180.out | apply IsS122.alloc | apply IsS122.drewN | apply IsS122.drew | apply IsS122.set_1 | apply IsS122.set_2) | exact HI180.out)) (by (with_reducible repeat (first | apply Kd.R_alloc | apply Kd.R_drewN | apply Kd.R_drew)); exact HO_5.out) (by decide)) hk (fun _ h => h.2)) (fun _ h => h.1)); have n1_ := aMk (Kd.R_mono (Kd.R_keep (IsS122.apart (show IsS122 w _ g180 t177 t201 t202 from by repeat (first | (with_reducible first | exact HI180.out | apply IsS122.alloc | apply IsS122.drewN | apply IsS122.drew | apply IsS122.set_1 | apply IsS122.set_2) | exact HI180.out)) (by (with_reducible repeat (first | apply Kd.R_alloc | apply Kd.R_drewN | apply Kd.R_drew)); exact HO199.out) (by decide)) hk (fun _ h => h.2)) (fun _ h => h.1)); have n2_ := aMk (hb); have n3_ := aMk (hi); clear HO_5; clear HO199; clear HB; clear HI180; have HO_5 := n0_; have HO199 := n1_; have HB := n2_; have HI180 := n3_; clear n0_ n1_ n2_ n3_; (try clear hb); (try clear hb2); (try clear hk); (try clear hi)) | ((with_reducible refine gate_dst (N := 35) rfl ?_); refine Kd.R_lit (Kd.int .i64) _ 3 ?hg (N := 35) ?hd (xs := ([(-1), 100000000001] : List Int)) (inner := [.int .i64 (-1), .int .i64 100000000001]) (ok := fun _ => True) (okp := fun _ => True) ?hr ?hp (fun _ hk => hk) trivial (Below.refl _ _) (Nat.le_refl _) (by simp) ?_; (case hd => rfl); (case hg => rfl); (case hr => first | (go_simp; done) | (go_simp; rfl)); (case hp => exact (Reps.one (show Kd.M (Kd.int .i64) _ _ _ (-1) [.int .i64 (-1)] from rfl) (Reps.one (show Kd.M (Kd.int .i64) _ _ _ 100000000001 [.int .i64 100000000001] from rfl) (Reps.none _ _)))); intro v208 w32 ho33 hb hg_ hnew_; clear hg_ hnew_; (first | rw [← Ny207.out] at ho33 | (simp only [Int.reduceToNat] at ho33; rw [← Ny207.out] at ho33)); have n0_ := aMk (Kd.R_elder' (by (with_reducible repeat (first | apply Kd.R_alloc | apply Kd.R_drewN | apply Kd.R_drew)); exact HO_5.out) (Kd.R_base ho33) hb); have n1_ := aMk (Kd.R_elder' (by (with_reducible repeat (first | apply Kd.R_alloc | apply Kd.R_drewN | apply Kd.R_drew)); exact HO199.out) (Kd.R_base ho33) hb); have n2_ := aMk (Kd.R_lower (Kd.R_new' (Kd.R_new' ho33 (Kd.R_lt (by (with_reducible repeat (first | apply Kd.R_alloc | apply Kd.R_drewN | apply Kd.R_drew)); exact HO_5.out))) (Kd.R_lt (by (with_reducible repeat (first | apply Kd.R_alloc | apply Kd.R_drewN | apply Kd.R_drew)); exact HO199.out))) (below_size (by repeat (first | (with_reducible first | exact HB.out | apply bAl | apply bDn | apply bD1 | refine bSe ?_ (IsS122.ge HI180.out)) | exact HB.out)))); have n3_ := aMk (IsS122.below (by repeat (first | (with_reducible first | exact HI180.out | apply IsS122.alloc | apply IsS122.drewN | apply IsS122.drew | apply IsS122.set_1 | apply IsS122.set_2) | exact HI180.out)) hb); have n4_ := aMk (below_step (by repeat (first | (with_reducible first | exact HB.out | apply bAl | apply bDn | apply bD1 | refine bSe ?_ (IsS122.ge HI180.out)) | exact HB.out)) hb); clear HO_5; clear HO199; clear HI180; clear HB; have HO_5 := n0_; have HO199 := n1_; have HO209 := n2_; have HI180 := n3_; have HB := n4_; clear n0_ n1_ n2_ n3_ n4_; clear hb ho33) | ((with_reducible refine gate_callee (f := 67) rfl ?_); refine goesL_ (some 37) rfl rfl Try.func67 (by kernel_rfl) rfl #[.pointer (some ⟨g180, 0, none⟩), .int .i64 2] rfl (by (try simp only [List.map_toArray, List.map_cons, List.map_nil]); first | done | rfl | (simp only [List.length_drop, List.length_take]; rfl)) ?_; (with_reducible refine (spec_l1Below.calls g180 t177 t205 t206 2 t210 t211 t212 w _ ?side1 ?side2 A23.out).mono ?_); (case side1 => repeat (first | (with_reducible first | exact HI180.out | apply IsS122.alloc | apply IsS122.drewN | apply IsS122.drew | apply IsS122.set_1 | apply IsS122.set_2) | exact HI180.out)); (case side2 => repeat (first | (with_reducible first | exact HB.out | apply bAl | apply bDn | apply bD1 | refine bSe ?_ (IsS122.ge HI180.out)) | exact HB.out)); rintro e w34 ⟨rfl, hi, hb, hk⟩; refine ⟨_, rfl, ?_⟩; have n0_ := aMk (Kd.R_mono (Kd.R_keep (IsS122.apart (show IsS122 w _ g180 t177 t205 t206 from by repeat (first | (with_reducible first | exact HI180.out | apply IsS122.alloc | apply IsS122.drewN | apply IsS122.drew | apply IsS122.set_1 | apply IsS122.set_2) | exact HI180.out)) (by (with_reducible repeat (first | apply Kd.R_alloc | apply Kd.R_drewN | apply Kd.R_drew)); exact HO_5.out) (by decide)) hk (fun _ h => h.2)) (fun _ h => h.1)); have n1_ := aMk (Kd.R_mono (Kd.R_keep (IsS122.apart (show IsS122 w _ g180 t177 t205 t206 from by repeat (first | (with_reducible first | exact HI180.out | apply IsS122.alloc | apply IsS122.drewN | apply IsS122.drew | apply IsS122.set_1 | apply IsS122.set_2) | exact HI180.out)) (by (with_reducible repeat (first | apply Kd.R_alloc | apply Kd.R_drewN | apply Kd.R_drew)); exact HO199.out) (by decide)) hk (fun _ h => h.2)) (fun _ h => h.1)); have n2_ := aMk (Kd.R_mono (Kd.R_keep (IsS122.apart (show IsS122 w _ g180 t177 t205 t206 from by repeat (first | (with_reducible first | exact HI180.out | apply IsS122.alloc | apply IsS122.drewN | apply IsS122.drew | apply IsS122.set_1 | apply IsS122.set_2) | exact HI180.out)) (by (with_reducible repeat (first | apply Kd.R_alloc | apply Kd.R_drewN | apply Kd.R_drew)); exact HO209.out) (by decide)) hk (fun _ h => h.2)) (fun _ h => h.1)); have n3_ := aMk (hb); have n4_ := aMk (hi); clear HO_5; clear HO199; clear HO209; clear HB; clear HI180; have HO_5 := n0_; have HO199 := n1_; have HO209 := n2_; have HB := n3_; have HI180 := n4_; clear n0_ n1_ n2_ n3_ n4_; (try clear hb); (try clear hb2); (try clear hk); (try clear hi); obtain ⟨Ao35, co35, eo35⟩ := Kd.R_slice HO209.out; subst eo35; have p213 : 0 ≤ (t210 : Int) := oDt (by first | (with_reducible assumption) | assumption); have q213 : t210 < (y207.length : Int) := oDt (by first | (with_reducible assumption) | assumption); obtain ⟨ad213, e213, hx213_0⟩ := Kd.at_int (Kd.R_reads' HO209.out).2.2 t210 p213 q213; cases e213; replace p213 := eq_true p213; replace q213 := eq_true q213) | ((with_reducible refine gate_builtin (b := .append) (xs := #[.tmp 34, .tmp 40]) rfl ?_); at_builtin; refine Kd.R_append (Kd.int .i64) (w0 := w) w.heap.size rfl (.tmp 34) (.tmp 40) 22 3 (.int .i64 0) 8 rfl Try.underlying22 info3 rfl (by decide) (by omega) u5 x5_1 (rd y207 t210) [.int .i64 (rd y207 t210)] (fun k_ => some k_ ≠ (.slice (some ad203) y197.length co30 : Value).ownBlock ∧ some k_ ≠ (.slice (some ad213) y207.length co35 : Value).ownBlock) (fun _ => False) rfl rfl ?aP (fun _ hk => hk.elim) ?aF ?aO ?aB ?aS ?aL ?_; (case aP => exact rfl); (case aB => exact (by repeat (first | (with_reducible first | exact HB.out | apply bAl | apply bDn | apply bD1 | refine bSe ?_ (IsS122.ge HI180.out)) | exact HB.out))); (case aF => exact (fun k_ hk => ⟨Kd.fresh' (Kd.R_lt (by (with_reducible repeat (first | apply Kd.R_alloc | apply Kd.R_drewN | apply Kd.R_drew)); exact HO199.out)) k_ hk, Kd.fresh' (Kd.R_lt (by (with_reducible repeat (first | apply Kd.R_alloc | apply Kd.R_drewN | apply Kd.R_drew)); exact HO209.out)) k_ hk⟩)); (case aO => exact (by (with_reducible repeat (first | apply Kd.R_alloc | apply Kd.R_drewN | apply Kd.R_drew)); exact Kd.R_mono HO_5.out (fun _ hk => ⟨hk.1.2, hk.2⟩))); (case aS => exact (below_size (by repeat (first | (with_reducible first | exact HB.out | apply bAl | apply bDn | apply bD1 | refine bSe ?_ (IsS122.ge HI180.out)) | exact HB.out)))); (case aL => have := LMc26.out; omega); intro v215 w36 ho hb hg hat; rw [← Ny214.out] at ho; have n0_ := aMk (IsS122.grown (IsS122.like HI180.out (by repeat (first | (with_reducible first | exact HI180.out | apply IsS122.alloc | apply IsS122.drewN | apply IsS122.drew | apply IsS122.set_1 | apply IsS122.set_2) | exact HI180.out))) hg (IsS122.own_ne HI180.out HO_5.out (by decide))); have n1_ := aMk (Kd.R_after (ok := (fun k_ => some k_ ≠ (.slice (some ad213) y207.length co35 : Value).ownBlock)) (by (with_reducible repeat (first | apply Kd.R_alloc | apply Kd.R_drewN | apply Kd.R_drew)); exact Kd.R_mono HO199.out (fun _ hk => ⟨hk.2, hk.1.2⟩)) hg hat); have n2_ := aMk (Kd.R_after (ok := (fun k_ => some k_ ≠ (.slice (some ad203) y197.length co30 : Value).ownBlock)) (by (with_reducible repeat (first | apply Kd.R_alloc | apply Kd.R_drewN | apply Kd.R_drew)); exact Kd.R_mono HO209.out (fun _ hk => ⟨hk.2, hk.1.2⟩)) hg hat); have n3_ := aMk (hb); have n4_ := aMk (ho); clear HI180; clear HO199; clear HO209; clear HB; clear HO_5; have HI180 := n0_; have HO199 := n1_; have HO209 := n2_; have HB := n3_; have HO216 := n4_; clear n0_ n1_ n2_ n3_ n4_; clear ho hb hg hat))
                 go_ret2
                 exact ⟨_, by first | rfl | (simp [errW_none, errW_some] <;> rfl) | (simp [*, errW_none, errW_some] <;> rfl), by (with_reducible repeat (first | apply Kd.R_alloc | apply Kd.R_drewN | apply Kd.R_drew)); exact Kd.R_mono HO216.out (fun _ hk => trivial), by repeat (first | (with_reducible first | exact HB.out | apply bAl | apply bDn | apply bD1 | refine bSe ?_ (IsS122.ge HI180.out)) | exact HB.out)⟩
               · rw [if_neg c26] at H
                 exact absurd H (by simp)
             · rw [if_neg c25] at H
               exact absurd H (by simp)
           · rw [if_neg c24] at H
             exact absurd H (by simp)
         · rw [if_neg c22] at H
           have c22b0 : (t204 == 0) = false := beq_eq_false_iff_ne.mpr c22
           have c22b1 : (t204 != 0) = true := bne_iff_ne.mpr c22
           by_cases c37 : t204 = 1
           · rw [if_pos c37] at H
             have c37b0 : (t204 == 1) = true := beq_iff_eq.mpr c37
             have c37b1 : (t204 != 1) = false := bne_eq_false_iff_eq.mpr c37
             clear c37
             have H' := aMk H
             clear H
             go_wp2_with (first | ((with_reducible refine gate_dst (N := 25) rfl ?_); refine Kd.R_lit (Kd.int .i64) _ 3 ?hg (N := 25) ?hd (xs := ([0, 1, 10, 100, 12345, 100000000000, 100000000001, (-1), 7] : List Int)) (inner := [.int .i64 0, .int .i64 1, .int .i64 10, .int .i64 100, .int .i64 12345, .int .i64 100000000000, .int .i64 100000000001, .int .i64 (-1), .int .i64 7]) (ok := fun _ => True) (okp := fun _ => True) ?hr ?hp (fun _ hk => hk) trivial (Below.refl _ _) (Nat.le_refl _) (by simp) ?_; (case hd => rfl); (case hg => rfl); (case hr => first | (go_simp; done) | (go_simp; rfl)); (case hp => exact (Reps.one (show Kd.M (Kd.int .i64) _ _ _ 0 [.int .i64 0] from rfl) (Reps.one (show Kd.M (Kd.int .i64) _ _ _ 1 [.int .i64 1] from rfl) (Reps.one (show Kd.M (Kd.int .i64) _ _ _ 10 [.int .i64 10] from rfl) (Reps.one (show Kd.M (Kd.int .i64) _ _ _ 100 [.int .i64 100] from rfl) (Reps.one (show Kd.M (Kd.int .i64) _ _ _ 12345 [.int .i64 12345] from rfl) (Reps.one (show Kd.M (Kd.int .i64) _ _ _ 100000000000 [.int .i64 100000000000] from rfl) (Reps.one (show Kd.M (Kd.int .i64) _ _ _ 100000000001 [.int .i64 100000000001] from rfl) (Reps.one (show Kd.M (Kd.int .i64) _ _ _ (-1) [.int .i64 (-1)] from rfl) (Reps.one (show Kd.M (Kd.int .i64) _ _ _ 7 [.int .i64 7] from rfl) (Reps.none _ _))))))))))); intro v198 w38 ho39 hb hg_ hnew_; clear hg_ hnew_; (first | rw [← Ny197.out] at ho39 | (simp only [Int.reduceToNat] at ho39; rw [← Ny197.out] at ho39)); have n0_ := aMk (Kd.R_elder' (by (with_reducible repeat (first | apply Kd.R_alloc | apply Kd.R_drewN | apply Kd.R_drew)); exact HO_5.out) (Kd.R_base ho39) hb); have n1_ := aMk (Kd.R_lower (Kd.R_new' ho39 (Kd.R_lt (by (with_reducible repeat (first | apply Kd.R_alloc | apply Kd.R_drewN | apply Kd.R_drew)); exact HO_5.out))) (below_size (by repeat (first | (with_reducible first | exact HB.out | apply bAl | apply bDn | apply bD1 | refine bSe ?_ (IsS122.ge HI180.out)) | exact HB.out)))); have n2_ := aMk (IsS122.below (by repeat (first | (with_reducible first | exact HI180.out | apply IsS122.alloc | apply IsS122.drewN | apply IsS122.drew | apply IsS122.set_1 | apply IsS122.set_2) | exact HI180.out)) hb); have n3_ := aMk (below_step (by repeat (first | (with_reducible first | exact HB.out | apply bAl | apply bDn | apply bD1 | refine bSe ?_ (IsS122.ge HI180.out)) | exact HB.out)) hb); clear HO_5; clear HI180; clear HB; have HO_5 := n0_; have HO199 := n1_; have HI180 := n2_; have HB := n3_; clear n0_ n1_ n2_ n3_; clear hb ho39) | ((with_reducible refine gate_callee (f := 67) rfl ?_); refine goesL_ (some 27) rfl rfl Try.func67 (by kernel_rfl) rfl #[.pointer (some ⟨g180, 0, none⟩), .int .i64 9] rfl (by (try simp only [List.map_toArray, List.map_cons, List.map_nil]); first | done | rfl | (simp only [List.length_drop, List.length_take]; rfl)) ?_; (with_reducible refine (spec_l1Below.calls g180 t177 x181001_1 x181002_1 9 t200 t201 t202 w _ ?side1 ?side2 A18.out).mono ?_); (case side1 => repeat (first | (with_reducible first | exact HI180.out | apply IsS122.alloc | apply IsS122.drewN | apply IsS122.drew | apply IsS122.set_1 | apply IsS122.set_2) | exact HI180.out)); (case side2 => repeat (first | (with_reducible first | exact HB.out | apply bAl | apply bDn | apply bD1 | refine bSe ?_ (IsS122.ge HI180.out)) | exact HB.out)); rintro e w40 ⟨rfl, hi, hb, hk⟩; refine ⟨_, rfl, ?_⟩; have n0_ := aMk (Kd.R_mono (Kd.R_keep (IsS122.apart (show IsS122 w _ g180 t177 x181001_1 x181002_1 from by repeat (first | (with_reducible first | exact HI180.out | apply IsS122.alloc | apply IsS122.drewN | apply IsS122.drew | apply IsS122.set_1 | apply IsS122.set_2) | exact HI180.out)) (by (with_reducible repeat (first | apply Kd.R_alloc | apply Kd.R_drewN | apply Kd.R_drew)); exact HO_5.out) (by decide)) hk (fun _ h => h.2)) (fun _ h => h.1)); have n1_ := aMk (Kd.R_mono (Kd.R_keep (IsS122.apart (show IsS122 w _ g180 t177 x181001_1 x181002_1 from by repeat (first | (with_reducible first | exact HI180.out | apply IsS122.alloc | apply IsS122.drewN | apply IsS122.drew | apply IsS122.set_1 | apply IsS122.set_2) | exact HI180.out)) (by (with_reducible repeat (first | apply Kd.R_alloc | apply Kd.R_drewN | apply Kd.R_drew)); exact HO199.out) (by decide)) hk (fun _ h => h.2)) (fun _ h => h.1)); have n2_ := aMk (hb); have n3_ := aMk (hi); clear HO_5; clear HO199; clear HB; clear HI180; have HO_5 := n0_; have HO199 := n1_; have HB := n2_; have HI180 := n3_; clear n0_ n1_ n2_ n3_; (try clear hb); (try clear hb2); (try clear hk); (try clear hi); obtain ⟨Ao41, co41, eo41⟩ := Kd.R_slice HO199.out; subst eo41; have p203 : 0 ≤ (t200 : Int) := oDt (by first | (with_reducible assumption) | assumption); have q203 : t200 < (y197.length : Int) := oDt (by first | (with_reducible assumption) | assumption); obtain ⟨ad203, e203, hx203_0⟩ := Kd.at_int (Kd.R_reads' HO199.out).2.2 t200 p203 q203; cases e203; replace p203 := eq_true p203; replace q203 := eq_true q203) | ((with_reducible refine gate_callee (f := 67) rfl ?_); refine goesL_ (some 31) rfl rfl Try.func67 (by kernel_rfl) rfl #[.pointer (some ⟨g180, 0, none⟩), .int .i64 40] rfl (by (try simp only [List.map_toArray, List.map_cons, List.map_nil]); first | done | rfl | (simp only [List.length_drop, List.length_take]; rfl)) ?_; (with_reducible refine (spec_l1Below.calls g180 t177 t201 t202 40 t204 t205 t206 w _ ?side1 ?side2 A21.out).mono ?_); (case side1 => repeat (first | (with_reducible first | exact HI180.out | apply IsS122.alloc | apply IsS122.drewN | apply IsS122.drew | apply IsS122.set_1 | apply IsS122.set_2) | exact HI180.out)); (case side2 => repeat (first | (with_reducible first | exact HB.out | apply bAl | apply bDn | apply bD1 | refine bSe ?_ (IsS122.ge HI180.out)) | exact HB.out)); rintro e w42 ⟨rfl, hi, hb, hk⟩; refine ⟨_, rfl, ?_⟩; have n0_ := aMk (Kd.R_mono (Kd.R_keep (IsS122.apart (show IsS122 w _ g180 t177 t201 t202 from by repeat (first | (with_reducible first | exact HI180.out | apply IsS122.alloc | apply IsS122.drewN | apply IsS122.drew | apply IsS122.set_1 | apply IsS122.set_2) | exact HI180.out)) (by (with_reducible repeat (first | apply Kd.R_alloc | apply Kd.R_drewN | apply Kd.R_drew)); exact HO_5.out) (by decide)) hk (fun _ h => h.2)) (fun _ h => h.1)); have n1_ := aMk (Kd.R_mono (Kd.R_keep (IsS122.apart (show IsS122 w _ g180 t177 t201 t202 from by repeat (first | (with_reducible first | exact HI180.out | apply IsS122.alloc | apply IsS122.drewN | apply IsS122.drew | apply IsS122.set_1 | apply IsS122.set_2) | exact HI180.out)) (by (with_reducible repeat (first | apply Kd.R_alloc | apply Kd.R_drewN | apply Kd.R_drew)); exact HO199.out) (by decide)) hk (fun _ h => h.2)) (fun _ h => h.1)); have n2_ := aMk (hb); have n3_ := aMk (hi); clear HO_5; clear HO199; clear HB; clear HI180; have HO_5 := n0_; have HO199 := n1_; have HB := n2_; have HI180 := n3_; clear n0_ n1_ n2_ n3_; (try clear hb); (try clear hb2); (try clear hk); (try clear hi)))
             go_loopg [5] k1 (fun kq v5 w' => ∃ (x5_2 : List Int) (x181001_2 : Int) (x181002_2 : Int), Aside0 (spec_DrawSpread.l1 kq x5_2 (rd y197 t200) t177 x181001_2 x181002_2 = some (r1, r2)) ∧ Aside0 (kq ≤ k1) ∧ Aside0 (Kd.R (Kd.int .i64) 3 w' w.heap.size (fun _ => True) v5 x5_2) ∧ Aside0 (IsS122 w w' g180 t177 x181001_2 x181002_2) ∧ Aside0 (Below w.heap.size w w'))
             case atStart => exact ⟨(x5_1), (t205), (t206), H', ⟨Nat.le_refl _⟩, ⟨by (with_reducible repeat (first | apply Kd.R_alloc | apply Kd.R_drewN | apply Kd.R_drew)); exact Kd.R_mono HO_5.out (fun _ hk => trivial)⟩, ⟨by repeat (first | (with_reducible first | exact HI180.out | apply IsS122.alloc | apply IsS122.drewN | apply IsS122.drew | apply IsS122.set_1 | apply IsS122.set_2) | exact HI180.out)⟩, ⟨by repeat (first | (with_reducible first | exact HB.out | apply bAl | apply bDn | apply bD1 | refine bSe ?_ (IsS122.ge HI180.out)) | exact HB.out)⟩⟩
             case round =>
              clear H'
              try clear c1
              try clear p1
              try clear q1
              try clear hx1
              try clear c2
              try clear p2
              try clear q2
              try clear hx2
              try clear c3
              try clear c4
              try clear c6
              try clear p6
              try clear c8
              try clear c8b0
              try clear c10
              try clear c10b0
              try clear c11
              try clear c11b0
              try clear c12
              try clear c19
              try clear c19b0
              try clear p19
              try clear q19
              try clear hx19
              try clear c20
              try clear c20b0
              try clear p20
              try clear q20
              try clear hx20
              try clear p21
              try clear q21
              try clear hx21
              try clear c22
              try clear c22b0
              try clear c22b1
              try clear c24
              try clear c24b0
              try clear c25
              try clear c25b0
              try clear c26
              try clear c37
              try clear c37b0
              try clear c37b1
              try clear hx193_0
              try clear hx203_0
              try clear hx213_0
              try clear p193
              try clear p2
              try clear p203
              try clear p213
              try clear q193
              try clear q203
              try clear q213
              obtain ⟨x5_2, x181001_2, x181002_2, HA, HK2, HO_5, HI180, HB⟩ := hrel
              cases gk with
              | zero => exact absurd HA.out (by simp [spec_DrawSpread.l1])
              | succ k2 =>
               have H := HA.out
               clear HA
               simp only [spec_DrawSpread.l1] at H
               replace H := oBm H
               obtain ⟨⟨t217, t218, t219⟩, A430, H⟩ := H
               replace H : (if (x5_2.length : Int) < (wrap64 (400 + t217)) then (if x5_2.length < 17592186044416 then (spec_DrawSpread.l1 k2 (x5_2 ++ [1]) (rd y197 t200) t177 t218 t219) else (none)) else (some ((rd y197 t200), x5_2))) = some (r1, r2) := H
               have A43 := aMk A430
               clear A430
               by_cases c44 : (x5_2.length : Int) < (wrap64 (400 + t217))
               · rw [if_pos c44] at H
                 have c44b0 : decide ((x5_2.length : Int) < (wrap64 (400 + t217))) = true := decide_eq_true c44
                 clear c44
                 by_cases c45 : x5_2.length < 17592186044416
                 · rw [if_pos c45] at H
                   have LMc45 := aMk c45
                   clear c45
                   obtain ⟨y220, hy220⟩ : ∃ y_ : List Int, y_ = (x5_2 ++ [1]) := ⟨_, rfl⟩
                   replace H : (spec_DrawSpread.l1 k2 y220 (rd y197 t200) t177 t218 t219) = some (r1, r2) := by first | (rw [hy220]; with_reducible exact H) | (have H2_ := (Option.bind_some _ _).symm.trans H; rw [hy220]; with_reducible exact H2_) | (have H2_ := (Option.bind_some _ _).symm.trans H; with_reducible exact H2_) | with_reducible exact H | (rw [hy220]; exact H) | exact H
                   have Ny220 := aMk hy220
                   clear hy220
                   have H' := aMk H
                   clear H
                   obtain ⟨Ao46, co46, eo46⟩ := Kd.R_slice HO_5.out
                   subst eo46
                   go_wp2_with (first | ((with_reducible refine gate_callee (f := 67) rfl ?_); refine goesL_ (some 47) rfl rfl Try.func67 (by kernel_rfl) rfl #[.pointer (some ⟨g180, 0, none⟩), .int .i64 2] rfl (by (try simp only [List.map_toArray, List.map_cons, List.map_nil]); first | done | rfl | (simp only [List.length_drop, List.length_take]; rfl)) ?_; (with_reducible refine (spec_l1Below.calls g180 t177 x181001_2 x181002_2 2 t217 t218 t219 w _ ?side1 ?side2 A43.out).mono ?_); (case side1 => repeat (first | (with_reducible first | exact HI180.out | apply IsS122.alloc | apply IsS122.drewN | apply IsS122.drew | apply IsS122.set_1 | apply IsS122.set_2) | exact HI180.out)); (case side2 => repeat (first | (with_reducible first | exact HB.out | apply bAl | apply bDn | apply bD1 | refine bSe ?_ (IsS122.ge HI180.out)) | exact HB.out)); rintro e w47 ⟨rfl, hi, hb, hk⟩; refine ⟨_, rfl, ?_⟩; have n0_ := aMk (Kd.R_mono (Kd.R_keep (IsS122.apart (show IsS122 w _ g180 t177 x181001_2 x181002_2 from by repeat (first | (with_reducible first | exact HI180.out | apply IsS122.alloc | apply IsS122.drewN | apply IsS122.drew | apply IsS122.set_1 | apply IsS122.set_2) | exact HI180.out)) (by (with_reducible repeat (first | apply Kd.R_alloc | apply Kd.R_drewN | apply Kd.R_drew)); exact HO_5.out) (by decide)) hk (fun _ h => h.2)) (fun _ h => h.1)); have n1_ := aMk (hb); have n2_ := aMk (hi); clear HO_5; clear HB; clear HI180; have HO_5 := n0_; have HB := n1_; have HI180 := n2_; clear n0_ n1_ n2_; (try clear hb); (try clear hb2); (try clear hk); (try clear hi)) | ((with_reducible refine gate_builtin (b := .append) (xs := #[.tmp 50, .tmp 51]) rfl ?_); at_builtin; refine Kd.R_append (Kd.int .i64) (w0 := w) w.heap.size rfl (.tmp 50) (.tmp 51) 22 3 (.int .i64 0) 8 rfl Try.underlying22 info3 rfl (by decide) (by omega) (.slice Ao46 x5_2.length co46) x5_2 1 [.int .i64 1] (fun _ => True) (fun _ => False) rfl rfl ?aP (fun _ hk => hk.elim) ?aF ?aO ?aB ?aS ?aL ?_; (case aP => exact rfl); (case aB => exact (by repeat (first | (with_reducible first | exact HB.out | apply bAl | apply bDn | apply bD1 | refine bSe ?_ (IsS122.ge HI180.out)) | exact HB.out))); (case aF => exact (fun _ _ => trivial)); (case aO => exact (by (with_reducible repeat (first | apply Kd.R_alloc | apply Kd.R_drewN | apply Kd.R_drew)); exact HO_5.out)); (case aS => exact (below_size (by repeat (first | (with_reducible first | exact HB.out | apply bAl | apply bDn | apply bD1 | refine bSe ?_ (IsS122.ge HI180.out)) | exact HB.out)))); (case aL => have := LMc45.out; omega); intro v221 w48 ho hb hg hat; rw [← Ny220.out] at ho; have n0_ := aMk (IsS122.grown (IsS122.like HI180.out (by repeat (first | (with_reducible first | exact HI180.out | apply IsS122.alloc | apply IsS122.drewN | apply IsS122.drew | apply IsS122.set_1 | apply IsS122.set_2) | exact HI180.out))) hg (IsS122.own_ne HI180.out HO_5.out (by decide))); have n1_ := aMk (hb); have n2_ := aMk (ho); clear HI180; clear HB; clear HO_5; have HI180 := n0_; have HB := n1_; have HO222 := n2_; clear n0_ n1_ n2_; clear ho hb hg hat))
                   go_roundg k2
                   case measure => have := HK1.out; have := HK2.out; omega
                   case rel => exact ⟨(y220), (t218), (t219), H', ⟨by have := HK1.out; have := HK2.out; omega⟩, ⟨by (with_reducible repeat (first | apply Kd.R_alloc | apply Kd.R_drewN | apply Kd.R_drew)); exact HO222.out⟩, ⟨by repeat (first | (with_reducible first | exact HI180.out | apply IsS122.alloc | apply IsS122.drewN | apply IsS122.drew | apply IsS122.set_1 | apply IsS122.set_2) | exact HI180.out)⟩, ⟨by repeat (first | (with_reducible first | exact HB.out | apply bAl | apply bDn | apply bD1 | refine bSe ?_ (IsS122.ge HI180.out)) | exact HB.out)⟩⟩
                 · rw [if_neg c45] at H
                   exact absurd H (by simp)
               · rw [if_neg c44] at H
                 have c44b0 : decide ((x5_2.length : Int) < (wrap64 (400 + t217))) = false := decide_eq_false c44
                 clear c44
                 simp only [Option.some.injEq, Prod.mk.injEq] at H
                 obtain ⟨rfl, rfl⟩ := H
                 obtain ⟨Ao49, co49, eo49⟩ := Kd.R_slice HO_5.out
                 subst eo49
                 go_wp2_with (first | ((with_reducible refine gate_callee (f := 67) rfl ?_); refine goesL_ (some 47) rfl rfl Try.func67 (by kernel_rfl) rfl #[.pointer (some ⟨g180, 0, none⟩), .int .i64 2] rfl (by (try simp only [List.map_toArray, List.map_cons, List.map_nil]); first | done | rfl | (simp only [List.length_drop, List.length_take]; rfl)) ?_; (with_reducible refine (spec_l1Below.calls g180 t177 x181001_2 x181002_2 2 t217 t218 t219 w _ ?side1 ?side2 A43.out).mono ?_); (case side1 => repeat (first | (with_reducible first | exact HI180.out | apply IsS122.alloc | apply IsS122.drewN | apply IsS122.drew | apply IsS122.set_1 | apply IsS122.set_2) | exact HI180.out)); (case side2 => repeat (first | (with_reducible first | exact HB.out | apply bAl | apply bDn | apply bD1 | refine bSe ?_ (IsS122.ge HI180.out)) | exact HB.out)); rintro e w50 ⟨rfl, hi, hb, hk⟩; refine ⟨_, rfl, ?_⟩; have n0_ := aMk (Kd.R_mono (Kd.R_keep (IsS122.apart (show IsS122 w _ g180 t177 x181001_2 x181002_2 from by repeat (first | (with_reducible first | exact HI180.out | apply IsS122.alloc | apply IsS122.drewN | apply IsS122.drew | apply IsS122.set_1 | apply IsS122.set_2) | exact HI180.out)) (by (with_reducible repeat (first | apply Kd.R_alloc | apply Kd.R_drewN | apply Kd.R_drew)); exact HO_5.out) (by decide)) hk (fun _ h => h.2)) (fun _ h => h.1)); have n1_ := aMk (hb); have n2_ := aMk (hi); clear HO_5; clear HB; clear HI180; have HO_5 := n0_; have HB := n1_; have HI180 := n2_; clear n0_ n1_ n2_; (try clear hb); (try clear hb2); (try clear hk); (try clear hi)))
                 go_ret2
                 exact ⟨_, by first | rfl | (simp [errW_none, errW_some] <;> rfl) | (simp [*, errW_none, errW_some] <;> rfl), by (with_reducible repeat (first | apply Kd.R_alloc | apply Kd.R_drewN | apply Kd.R_drew)); exact HO_5.out, by repeat (first | (with_reducible first | exact HB.out | apply bAl | apply bDn | apply bD1 | refine bSe ?_ (IsS122.ge HI180.out)) | exact HB.out)⟩
           · rw [if_neg c37] at H
             have c37b0 : (t204 == 1) = false := beq_eq_false_iff_ne.mpr c37
             have c37b1 : (t204 != 1) = true := bne_iff_ne.mpr c37
             simp only [Option.some.injEq, Prod.mk.injEq] at H
             obtain ⟨rfl, rfl⟩ := H
             go_wp2_with (first | ((with_reducible refine gate_dst (N := 25) rfl ?_); refine Kd.R_lit (Kd.int .i64) _ 3 ?hg (N := 25) ?hd (xs := ([0, 1, 10, 100, 12345, 100000000000, 100000000001, (-1), 7] : List Int)) (inner := [.int .i64 0, .int .i64 1, .int .i64 10, .int .i64 100, .int .i64 12345, .int .i64 100000000000, .int .i64 100000000001, .int .i64 (-1), .int .i64 7]) (ok := fun _ => True) (okp := fun _ => True) ?hr ?hp (fun _ hk => hk) trivial (Below.refl _ _) (Nat.le_refl _) (by simp) ?_; (case hd => rfl); (case hg => rfl); (case hr => first | (go_simp; done) | (go_simp; rfl)); (case hp => exact (Reps.one (show Kd.M (Kd.int .i64) _ _ _ 0 [.int .i64 0] from rfl) (Reps.one (show Kd.M (Kd.int .i64) _ _ _ 1 [.int .i64 1] from rfl) (Reps.one (show Kd.M (Kd.int .i64) _ _ _ 10 [.int .i64 10] from rfl) (Reps.one (show Kd.M (Kd.int .i64) _ _ _ 100 [.int .i64 100] from rfl) (Reps.one (show Kd.M (Kd.int .i64) _ _ _ 12345 [.int .i64 12345] from rfl) (Reps.one (show Kd.M (Kd.int .i64) _ _ _ 100000000000 [.int .i64 100000000000] from rfl) (Reps.one (show Kd.M (Kd.int .i64) _ _ _ 100000000001 [.int .i64 100000000001] from rfl) (Reps.one (show Kd.M (Kd.int .i64) _ _ _ (-1) [.int .i64 (-1)] from rfl) (Reps.one (show Kd.M (Kd.int .i64) _ _ _ 7 [.int .i64 7] from rfl) (Reps.none _ _))))))))))); intro v198 w51 ho52 hb hg_ hnew_; clear hg_ hnew_; (first | rw [← Ny197.out] at ho52 | (simp only [Int.reduceToNat] at ho52; rw [← Ny197.out] at ho52)); have n0_ := aMk (Kd.R_elder' (by (with_reducible repeat (first | apply Kd.R_alloc | apply Kd.R_drewN | apply Kd.R_drew)); exact HO_5.out) (Kd.R_base ho52) hb); have n1_ := aMk (Kd.R_lower (Kd.R_new' ho52 (Kd.R_lt (by (with_reducible repeat (first | apply Kd.R_alloc | apply Kd.R_drewN | apply Kd.R_drew)); exact HO_5.out))) (below_size (by repeat (first | (with_reducible first | exact HB.out | apply bAl | apply bDn | apply bD1 | refine bSe ?_ (IsS122.ge HI180.out)) | exact HB.out)))); have n2_ := aMk (IsS122.below (by repeat (first | (with_reducible first | exact HI180.out | apply IsS122.alloc | apply IsS122.drewN | apply IsS122.drew | apply IsS122.set_1 | apply IsS122.set_2) | exact HI180.out)) hb); have n3_ := aMk (below_step (by repeat (first | (with_reducible first | exact HB.out | apply bAl | apply bDn | apply bD1 | refine bSe ?_ (IsS122.ge HI180.out)) | exact HB.out)) hb); clear HO_5; clear HI180; clear HB; have HO_5 := n0_; have HO199 := n1_; have HI180 := n2_; have HB := n3_; clear n0_ n1_ n2_ n3_; clear hb ho52) | ((with_reducible refine gate_callee (f := 67) rfl ?_); refine goesL_ (some 27) rfl rfl Try.func67 (by kernel_rfl) rfl #[.pointer (some ⟨g180, 0, none⟩), .int .i64 9] rfl (by (try simp only [List.map_toArray, List.map_cons, List.map_nil]); first | done | rfl | (simp only [List.length_drop, List.length_take]; rfl)) ?_; (with_reducible refine (spec_l1Below.calls g180 t177 x181001_1 x181002_1 9 t200 t201 t202 w _ ?side1 ?side2 A18.out).mono ?_); (case side1 => repeat (first | (with_reducible first | exact HI180.out | apply IsS122.alloc | apply IsS122.drewN | apply IsS122.drew | apply IsS122.set_1 | apply IsS122.set_2) | exact HI180.out)); (case side2 => repeat (first | (with_reducible first | exact HB.out | apply bAl | apply bDn | apply bD1 | refine bSe ?_ (IsS122.ge HI180.out)) | exact HB.out)); rintro e w53 ⟨rfl, hi, hb, hk⟩; refine ⟨_, rfl, ?_⟩; have n0_ := aMk (Kd.R_mono (Kd.R_keep (IsS122.apart (show IsS122 w _ g180 t177 x181001_1 x181002_1 from by repeat (first | (with_reducible first | exact HI180.out | apply IsS122.alloc | apply IsS122.drewN | apply IsS122.drew | apply IsS122.set_1 | apply IsS122.set_2) | exact HI180.out)) (by (with_reducible repeat (first | apply Kd.R_alloc | apply Kd.R_drewN | apply Kd.R_drew)); exact HO_5.out) (by decide)) hk (fun _ h => h.2)) (fun _ h => h.1)); have n1_ := aMk (Kd.R_mono (Kd.R_keep (IsS122.apart (show IsS122 w _ g180 t177 x181001_1 x181002_1 from by repeat (first | (with_reducible first | exact HI180.out | apply IsS122.alloc | apply IsS122.drewN | apply IsS122.drew | apply IsS122.set_1 | apply IsS122.set_2) | exact HI180.out)) (by (with_reducible repeat (first | apply Kd.R_alloc | apply Kd.R_drewN | apply Kd.R_drew)); exact HO199.out) (by decide)) hk (fun _ h => h.2)) (fun _ h => h.1)); have n2_ := aMk (hb); have n3_ := aMk (hi); clear HO_5; clear HO199; clear HB; clear HI180; have HO_5 := n0_; have HO199 := n1_; have HB := n2_; have HI180 := n3_; clear n0_ n1_ n2_ n3_; (try clear hb); (try clear hb2); (try clear hk); (try clear hi); obtain ⟨Ao54, co54, eo54⟩ := Kd.R_slice HO199.out; subst eo54; have p203 : 0 ≤ (t200 : Int) := oDt (by first | (with_reducible assumption) | assumption); have q203 : t200 < (y197.length : Int) := oDt (by first | (with_reducible assumption) | assumption); obtain ⟨ad203, e203, hx203_0⟩ := Kd.at_int (Kd.R_reads' HO199.out).2.2 t200 p203 q203; cases e203; replace p203 := eq_true p203; replace q203 := eq_true q203) | ((with_reducible refine gate_callee (f := 67) rfl ?_); refine goesL_ (some 31) rfl rfl Try.func67 (by kernel_rfl) rfl #[.pointer (some ⟨g180, 0, none⟩), .int .i64 40] rfl (by (try simp only [List.map_toArray, List.map_cons, List.map_nil]); first | done | rfl | (simp only [List.length_drop, List.length_take]; rfl)) ?_; (with_reducible refine (spec_l1Below.calls g180 t177 t201 t202 40 t204 t205 t206 w _ ?side1 ?side2 A21.out).mono ?_); (case side1 => repeat (first | (with_reducible first | exact HI180.out | apply IsS122.alloc | apply IsS122.drewN | apply IsS122.drew | apply IsS122.set_1 | apply IsS122.set_2) | exact HI180.out)); (case side2 => repeat (first | (with_reducible first | exact HB.out | apply bAl | apply bDn | apply bD1 | refine bSe ?_ (IsS122.ge HI180.out)) | exact HB.out)); rintro e w55 ⟨rfl, hi, hb, hk⟩; refine ⟨_, rfl, ?_⟩; have n0_ := aMk (Kd.R_mono (Kd.R_keep (IsS122.apart (show IsS122 w _ g180 t177 t201 t202 from by repeat (first | (with_reducible first | exact HI180.out | apply IsS122.alloc | apply IsS122.drewN | apply IsS122.drew | apply IsS122.set_1 | apply IsS122.set_2) | exact HI180.out)) (by (with_reducible repeat (first | apply Kd.R_alloc | apply Kd.R_drewN | apply Kd.R_drew)); exact HO_5.out) (by decide)) hk (fun _ h => h.2)) (fun _ h => h.1)); have n1_ := aMk (Kd.R_mono (Kd.R_keep (IsS122.apart (show IsS122 w _ g180 t177 t201 t202 from by repeat (first | (with_reducible first | exact HI180.out | apply IsS122.alloc | apply IsS122.drewN | apply IsS122.drew | apply IsS122.set_1 | apply IsS122.set_2) | exact HI180.out)) (by (with_reducible repeat (first | apply Kd.R_alloc | apply Kd.R_drewN | apply Kd.R_drew)); exact HO199.out) (by decide)) hk (fun _ h => h.2)) (fun _ h => h.1)); have n2_ := aMk (hb); have n3_ := aMk (hi); clear HO_5; clear HO199; clear HB; clear HI180; have HO_5 := n0_; have HO199 := n1_; have HB := n2_; have HI180 := n3_; clear n0_ n1_ n2_ n3_; (try clear hb); (try clear hb2); (try clear hk); (try clear hi)))
             go_ret2
             exact ⟨_, by first | rfl | (simp [errW_none, errW_some] <;> rfl) | (simp [*, errW_none, errW_some] <;> rfl), by (with_reducible repeat (first | apply Kd.R_alloc | apply Kd.R_drewN | apply Kd.R_drew)); exact Kd.R_mono HO_5.out (fun _ hk => trivial), by repeat (first | (with_reducible first | exact HB.out | apply bAl | apply bDn | apply bD1 | refine bSe ?_ (IsS122.ge HI180.out)) | exact HB.out)⟩
       · rw [if_neg c20] at H
         exact absurd H (by simp)
     · rw [if_neg c19] at H
       exact absurd H (by simp)
mutual
def impl_Spread.j0 : Nat → Int → List Int → Bool → Option (List Int)
 | 0, _, _, _ => none
 | k + 1, x0, x1, x17 => if x17 = true then (some ([] : List Int)) else (impl_Spread.l0 k x0 x1 x1 (x1.length : Int) 0)
def impl_Spread.l0 : Nat → Int → List Int → List Int → Int → Int → Option (List Int)
 | 0, _, _, _, _, _ => none
 | k + 1, x0, x1, x18, x19, x20 => if x20 < x19 then (if 0 ≤ x20 then (if x20 < (x18.length : Int) then (if (rd x18 x20) < 0 then (some ([] : List Int)) else (if (rd x18 x20) > 100000000000 then (some ([] : List Int)) else (impl_Spread.l0 k x0 x1 x18 x19 (wrap64 (x20 + 1))))) else (none)) else (none)) else ((impl_spread.f k x0 x1).bind fun t224 => (some t224))
end
def impl_Spread.f (k : Nat) (a0 : Int) (l1 : List Int) : Option (List Int) := if (l1.length : Int) > 400 then (impl_Spread.j0 k a0 l1 true) else (if a0 < 0 then (impl_Spread.j0 k a0 l1 true) else (impl_Spread.j0 k a0 l1 (decide (a0 > 100000000000))))
set_option maxHeartbeats 8000000 in
set_option maxRecDepth 100000 in
theorem impl_Spread.calls (k : Nat) (a0 : Int) (A1 : Option Addr) (c1 : Nat) (l1 : List Int) (r : List Int) (w : World) (hr1 : Kd.C (Kd.int .i64) w A1 l1.length l1) (hc1 : l1.length ≤ c1) (h : impl_Spread.f k a0 l1 = some r) :
 Calls Try.prog 47 #[.int .i64 a0, .slice A1 l1.length c1] w fun e w' => ∃ v0_ : Value, e = .returned (v0_) ∧ Kd.R (Kd.int .i64) 3 w' w.heap.size (fun _ => True) v0_ r ∧ Below w.heap.size w w' := by
 have HR1 := aMk hr1
 have HC1 := aMk hc1
 clear hr1 hc1
 have HB := aMk (Below.refl w.heap.size w)
 have H : (if (l1.length : Int) > 400 then (impl_Spread.j0 k a0 l1 true) else (if a0 < 0 then (impl_Spread.j0 k a0 l1 true) else (impl_Spread.j0 k a0 l1 (decide (a0 > 100000000000))))) = some r := h
 clear h
 have HC3 := aMk H
 clear H
 go_enter Try.func47, Try.ntmps47
 go_upto_region 1 with (fail)
 go_cut [17] (fun v17 wc => ∃ (kq : Nat) (x17_2 : Bool), v17 = .bool x17_2 ∧ Aside0 (impl_Spread.j0 kq a0 l1 x17_2 = some r) ∧ Aside0 (kq ≤ k) ∧ Aside0 (Below w.heap.size w wc))
 case first =>
  have H := HC3.out
  clear HC3
  by_cases c4 : (l1.length : Int) > 400
  · rw [if_pos c4] at H
    have c4b0 : decide (400 < (l1.length : Int)) = true := decide_eq_true c4
    have c4b1 : decide (400 < l1.length) = true := decide_eq_true (by omega)
    clear c4
    (first | rw [c4b0] | (simp only [i64_w, i32_w]; rw [c4b0]) | skip)
    have H' := aMk H
    clear H
    go_wp2
    go_meet
    case rel => exact ⟨_, (true), (by first | rfl | (simp; done) | (simp [*]; done)), H', ⟨by first | omega | exact Nat.le_refl _⟩, ⟨by repeat (first | (with_reducible first | exact HB.out | apply bAl | apply bDn | apply bD1) | exact HB.out)⟩⟩
  · rw [if_neg c4] at H
    have c4b0 : decide (400 < (l1.length : Int)) = false := decide_eq_false c4
    have c4b1 : decide (400 < l1.length) = false := decide_eq_false (by omega)
    clear c4
    (first | rw [c4b0] | (simp only [i64_w, i32_w]; rw [c4b0]) | skip)
    by_cases c5 : a0 < 0
    · rw [if_pos c5] at H
      have c5b0 : decide (a0 < 0) = true := decide_eq_true c5
      clear c5
      have H' := aMk H
      clear H
      go_wp2
      go_meet
      case rel => exact ⟨_, (true), (by first | rfl | (simp; done) | (simp [*]; done)), H', ⟨by first | omega | exact Nat.le_refl _⟩, ⟨by repeat (first | (with_reducible first | exact HB.out | apply bAl | apply bDn | apply bD1) | exact HB.out)⟩⟩
    · rw [if_neg c5] at H
      have c5b0 : decide (a0 < 0) = false := decide_eq_false c5
      clear c5
      have H' := aMk H
      clear H
      go_wp2
      go_meet
      case rel => exact ⟨_, (decide (a0 > 100000000000)), (by first | rfl | (simp; done) | (simp [*]; done)), H', ⟨by first | omega | exact Nat.le_refl _⟩, ⟨by repeat (first | (with_reducible first | exact HB.out | apply bAl | apply bDn | apply bD1) | exact HB.out)⟩⟩
 case rest =>
  clear HC3
  try clear c1
  try clear p2
  try clear c4
  try clear c4b0
  try clear c4b1
  try clear c5
  try clear c5b0
  obtain ⟨kq, x17_2, rfl, HA, HJ2, HB⟩ := hcut
  cases kq with
  | zero => exact absurd HA.out (by simp [impl_Spread.j0])
  | succ kj2 =>
   have H := HA.out
   clear HA
   simp only [impl_Spread.j0] at H
   by_cases c6 : x17_2 = true
   · subst c6
     have H1 : (some ([] : List Int)) = some r := by rw [if_pos rfl] at H; exact H
     clear H
     have H := H1
     clear H1
     obtain rfl := Option.some.inj H
     go_wp2
     go_ret
     exact ⟨_, by first | rfl | (simp [errW_none, errW_some] <;> rfl) | (simp [*, errW_none, errW_some] <;> rfl), by first | exact Kd.R_nil _ _ _ _ _ | exact Kd.N_nil _ _ _ _ _ | exact Kd.V_nil _ _ _ _ _ | exact Kd.Q_nil _ _ _ _ _ | exact Kd.S_nil _ _ _ _ _, by repeat (first | (with_reducible first | exact HB.out | apply bAl | apply bDn | apply bD1) | exact HB.out)⟩
   · replace c6 := Bool.eq_false_iff.mpr c6
     subst c6
     have H1 : (impl_Spread.l0 kj2 a0 l1 l1 (l1.length : Int) 0) = some r := by rw [if_neg (show ¬ (false = true) by decide)] at H; exact H
     clear H
     have H := H1
     clear H1
     have H' := aMk H
     clear H
     go_wp2
     go_loopg [20] kj2 (fun kq v20 w' => ∃ (x20_2 : Int), v20 = .int .i64 x20_2 ∧ Aside0 (impl_Spread.l0 kq a0 l1 l1 (l1.length : Int) x20_2 = some r) ∧ Aside0 (kq ≤ kj2) ∧ Aside0 (Below w.heap.size w w'))
     case atStart => exact ⟨(0), (by first | rfl | (simp; done) | (simp [*]; done)), H', ⟨Nat.le_refl _⟩, ⟨by repeat (first | (with_reducible first | exact HB.out | apply bAl | apply bDn | apply bD1) | exact HB.out)⟩⟩
     case round =>
      clear H'
      try clear c1
      try clear p2
      try clear c4
      try clear c4b0
      try clear c4b1
      try clear c5
      try clear c5b0
      try clear c6
      try clear p2
      obtain ⟨x20_2, rfl, HA, HK2, HB⟩ := hrel
      cases gk with
      | zero => exact absurd HA.out (by simp [impl_Spread.l0])
      | succ k2 =>
       have H := HA.out
       clear HA
       simp only [impl_Spread.l0] at H
       by_cases c7 : x20_2 < (l1.length : Int)
       · rw [if_pos c7] at H
         have c7b0 : decide (x20_2 < (l1.length : Int)) = true := decide_eq_true c7
         clear c7
         by_cases c8 : 0 ≤ x20_2
         · rw [if_pos c8] at H
           have c8b0 : decide (0 ≤ x20_2) = true := decide_eq_true c8
           clear c8
           by_cases c9 : x20_2 < (l1.length : Int)
           · rw [if_pos c9] at H
             have c9b0 : decide (x20_2 < (l1.length : Int)) = true := decide_eq_true c9
             clear c9
             by_cases c10 : (rd l1 x20_2) < 0
             · rw [if_pos c10] at H
               have c10b0 : decide ((rd l1 x20_2) < 0) = true := decide_eq_true c10
               clear c10
               obtain rfl := Option.some.inj H
               have p223 : 0 ≤ (x20_2 : Int) := oDt (by first | (with_reducible assumption) | assumption)
               have q223 : x20_2 < (l1.length : Int) := oDt (by first | (with_reducible assumption) | assumption)
               obtain ⟨ad223, e223, hx223_0⟩ := Kd.at_int HR1.out x20_2 p223 q223
               cases e223
               replace hx223_0 := (HB.out.cell (wBl w _ hx223_0)).trans hx223_0
               replace p223 := eq_true p223
               replace q223 := eq_true q223
               go_wp2
               go_ret
               exact ⟨_, by first | rfl | (simp [errW_none, errW_some] <;> rfl) | (simp [*, errW_none, errW_some] <;> rfl), by first | exact Kd.R_nil _ _ _ _ _ | exact Kd.N_nil _ _ _ _ _ | exact Kd.V_nil _ _ _ _ _ | exact Kd.Q_nil _ _ _ _ _ | exact Kd.S_nil _ _ _ _ _, by repeat (first | (with_reducible first | exact HB.out | apply bAl | apply bDn | apply bD1) | exact HB.out)⟩
             · rw [if_neg c10] at H
               have c10b0 : decide ((rd l1 x20_2) < 0) = false := decide_eq_false c10
               clear c10
               by_cases c11 : (rd l1 x20_2) > 100000000000
               · rw [if_pos c11] at H
                 have c11b0 : decide (100000000000 < (rd l1 x20_2)) = true := decide_eq_true c11
                 clear c11
                 obtain rfl := Option.some.inj H
                 have p223 : 0 ≤ (x20_2 : Int) := oDt (by first | (with_reducible assumption) | assumption)
                 have q223 : x20_2 < (l1.length : Int) := oDt (by first | (with_reducible assumption) | assumption)
                 obtain ⟨ad223, e223, hx223_0⟩ := Kd.at_int HR1.out x20_2 p223 q223
                 cases e223
                 replace hx223_0 := (HB.out.cell (wBl w _ hx223_0)).trans hx223_0
                 replace p223 := eq_true p223
                 replace q223 := eq_true q223
                 go_wp2
                 go_ret
                 exact ⟨_, by first | rfl | (simp [errW_none, errW_some] <;> rfl) | (simp [*, errW_none, errW_some] <;> rfl), by first | exact Kd.R_nil _ _ _ _ _ | exact Kd.N_nil _ _ _ _ _ | exact Kd.V_nil _ _ _ _ _ | exact Kd.Q_nil _ _ _ _ _ | exact Kd.S_nil _ _ _ _ _, by repeat (first | (with_reducible first | exact HB.out | apply bAl | apply bDn | apply bD1) | exact HB.out)⟩
               · rw [if_neg c11] at H
                 have c11b0 : decide (100000000000 < (rd l1 x20_2)) = false := decide_eq_false c11
                 clear c11
                 have H' := aMk H
                 clear H
                 have p223 : 0 ≤ (x20_2 : Int) := oDt (by first | (with_reducible assumption) | assumption)
                 have q223 : x20_2 < (l1.length : Int) := oDt (by first | (with_reducible assumption) | assumption)
                 obtain ⟨ad223, e223, hx223_0⟩ := Kd.at_int HR1.out x20_2 p223 q223
                 cases e223
                 replace hx223_0 := (HB.out.cell (wBl w _ hx223_0)).trans hx223_0
                 replace p223 := eq_true p223
                 replace q223 := eq_true q223
                 go_wp2
                 go_roundg k2
                 case measure => have := HJ2.out; have := HK2.out; omega
                 case rel => exact ⟨(wrap64 (x20_2 + 1)), (by first | rfl | (simp; done) | (simp [*]; done)), H', ⟨by have := HJ2.out; have := HK2.out; omega⟩, ⟨by repeat (first | (with_reducible first | exact HB.out | apply bAl | apply bDn | apply bD1) | exact HB.out)⟩⟩
           · rw [if_neg c9] at H
             exact absurd H (by simp)
         · rw [if_neg c8] at H
           exact absurd H (by simp)
       · rw [if_neg c7] at H
         have c7b0 : decide (x20_2 < (l1.length : Int)) = false := decide_eq_false c7
         clear c7
         replace H := oBm H
         obtain ⟨t224, A120, H⟩ := H
         replace H : (some t224) = some r := H
         have A12 := aMk A120
         clear A120
         obtain rfl := Option.some.inj H
         go_wp2_with (first | ((with_reducible refine gate_callee (f := 93) rfl ?_); refine goesL_ (some 33) rfl rfl Try.func93 (by kernel_rfl) rfl #[.int .i64 a0, .slice A1 l1.length c1] rfl (by (try simp only [List.map_toArray, List.map_cons, List.map_nil]); first | done | rfl | (simp only [List.length_drop, List.length_take]; rfl)) ?_; (with_reducible refine (impl_spread.calls k2 a0 _ _ l1 t224 _ ?side1 ?side2 A12.out).mono ?_); (case side1 => repeat (first | exact (Kd.C_below HR1.out HB.out) | (with_reducible refine Kd.C_alloc ?_ _) | (with_reducible refine Kd.C_drewN ?_ _) | (with_reducible refine Kd.C_drew ?_))); (case side2 => exact HC1.out); rintro e w13 ⟨v225, rfl, ho0, hb⟩; refine ⟨_, rfl, ?_⟩; have n0_ := aMk (Kd.R_lower ho0 (below_size (by repeat (first | (with_reducible first | exact HB.out | apply bAl | apply bDn | apply bD1) | exact HB.out)))); have n1_ := aMk (below_step (by repeat (first | (with_reducible first | exact HB.out | apply bAl | apply bDn | apply bD1) | exact HB.out)) hb); clear HB; have HO226 := n0_; have HB := n1_; clear n0_ n1_; (try clear hb); (try clear hb2); (try clear hk); (try clear hi); (try clear ho0)))
         go_ret
         exact ⟨_, by first | rfl | (simp [errW_none, errW_some] <;> rfl) | (simp [*, errW_none, errW_some] <;> rfl), by (with_reducible repeat (first | apply Kd.R_alloc | apply Kd.R_drewN | apply Kd.R_drew)); exact HO226.out, by repeat (first | (with_reducible first | exact HB.out | apply bAl | apply bDn | apply bD1) | exact HB.out)⟩
mutual
def spec_Spread.j0 : Nat → Int → List Int → Bool → Option (List Int)
 | 0, _, _, _ => none
 | k + 1, x0, x1, x13 => if x13 = true then (some (([] : List Int))) else (spec_Spread.l0 k x0 x1 0)
def spec_Spread.l0 : Nat → Int → List Int → Int → Option (List Int)
 | 0, _, _, _ => none
 | k + 1, x0, x1, x5 => if x5 < (x1.length : Int) then (if 0 ≤ x5 then ((spec_l12In.f (rd x1 x5) 0 100000000000).bind fun t232 => (if t232 = true then (spec_Spread.l0 k x0 x1 (wrap64 (x5 + 1))) else (some (([] : List Int))))) else (none)) else ((spec_l16Spread.f k x0 x1).bind fun t236 => (some t236))
end
def spec_Spread.f (k : Nat) (a0 : Int) (l1 : List Int) : Option (List Int) := if (l1.length : Int) > 400 then (spec_Spread.j0 k a0 l1 true) else ((spec_l12In.f a0 0 100000000000).bind fun t227 => (spec_Spread.j0 k a0 l1 (!t227)))
set_option maxHeartbeats 8000000 in
set_option maxRecDepth 100000 in
theorem spec_Spread.calls (k : Nat) (a0 : Int) (A1 : Option Addr) (c1 : Nat) (l1 : List Int) (r : List Int) (w : World) (hr1 : Kd.C (Kd.int .i64) w A1 l1.length l1) (hc1 : l1.length ≤ c1) (h : spec_Spread.f k a0 l1 = some r) :
 Calls Try.prog 48 #[.int .i64 a0, .slice A1 l1.length c1] w fun e w' => ∃ v0_ : Value, e = .returned (v0_) ∧ Kd.R (Kd.int .i64) 3 w' w.heap.size (fun _ => True) v0_ r ∧ Below w.heap.size w w' := by
 have HR1 := aMk hr1
 have HC1 := aMk hc1
 clear hr1 hc1
 have HB := aMk (Below.refl w.heap.size w)
 have H : (if (l1.length : Int) > 400 then (spec_Spread.j0 k a0 l1 true) else ((spec_l12In.f a0 0 100000000000).bind fun t227 => (spec_Spread.j0 k a0 l1 (!t227)))) = some r := h
 clear h
 have HC3 := aMk H
 clear H
 go_enter Try.func48, Try.ntmps48
 go_upto_region 1 with (fail)
 go_cut [13] (fun v13 wc => ∃ (kq : Nat) (x13_2 : Bool), v13 = .bool x13_2 ∧ Aside0 (spec_Spread.j0 kq a0 l1 x13_2 = some r) ∧ Aside0 (kq ≤ k) ∧ Aside0 (Below w.heap.size w wc))
 case first =>
  have H := HC3.out
  clear HC3
  by_cases c4 : (l1.length : Int) > 400
  · rw [if_pos c4] at H
    have c4b0 : decide (400 < (l1.length : Int)) = true := decide_eq_true c4
    have c4b1 : decide (400 < l1.length) = true := decide_eq_true (by omega)
    clear c4
    (first | rw [c4b0] | (simp only [i64_w, i32_w]; rw [c4b0]) | skip)
    have H' := aMk H
    clear H
    go_wp2
    go_meet
    case rel => exact ⟨_, (true), (by first | rfl | (simp; done) | (simp [*]; done)), H', ⟨by first | omega | exact Nat.le_refl _⟩, ⟨by repeat (first | (with_reducible first | exact HB.out | apply bAl | apply bDn | apply bD1) | exact HB.out)⟩⟩
  · rw [if_neg c4] at H
    have c4b0 : decide (400 < (l1.length : Int)) = false := decide_eq_false c4
    have c4b1 : decide (400 < l1.length) = false := decide_eq_false (by omega)
    clear c4
    (first | rw [c4b0] | (simp only [i64_w, i32_w]; rw [c4b0]) | skip)
    replace H := oBm H
    obtain ⟨t227, A50, H⟩ := H
    replace H : (spec_Spread.j0 k a0 l1 (!t227)) = some r := H
    have A5 := aMk A50
    clear A50
    have H' := aMk H
    clear H
    go_wp2_with (first | (go_at_call 54; (with_reducible refine (spec_l12In.calls a0 0 100000000000 t227 _ A5.out).mono ?_); rintro e w' ⟨rfl, ⟨nd, rfl⟩⟩))
    go_meet
    case rel => exact ⟨_, (!t227), (by first | rfl | (simp; done) | (simp [*]; done)), H', ⟨by first | omega | exact Nat.le_refl _⟩, ⟨by repeat (first | (with_reducible first | exact HB.out | apply bAl | apply bDn | apply bD1) | exact HB.out)⟩⟩
 case rest =>
  clear HC3
  try clear c1
  try clear p2
  try clear c4
  try clear c4b0
  try clear c4b1
  obtain ⟨kq, x13_2, rfl, HA, HJ2, HB⟩ := hcut
  cases kq with
  | zero => exact absurd HA.out (by simp [spec_Spread.j0])
  | succ kj2 =>
   have H := HA.out
   clear HA
   simp only [spec_Spread.j0] at H
   by_cases c6 : x13_2 = true
   · subst c6
     have H1 : (some (([] : List Int))) = some r := by rw [if_pos rfl] at H; exact H
     clear H
     have H := H1
     clear H1
     obtain ⟨y228, hy228⟩ : ∃ y_ : List Int, y_ = (([] : List Int)) := ⟨_, rfl⟩
     replace H : (some y228) = some r := by first | (rw [hy228]; with_reducible exact H) | (have H2_ := (Option.bind_some _ _).symm.trans H; rw [hy228]; with_reducible exact H2_) | (have H2_ := (Option.bind_some _ _).symm.trans H; with_reducible exact H2_) | with_reducible exact H | (rw [hy228]; exact H) | exact H
     have Ny228 := aMk hy228
     clear hy228
     obtain rfl := Option.some.inj H
     go_wp2_with (first | ((with_reducible refine gate_dst (N := 14) rfl ?_); refine Kd.R_lit (Kd.int .i64) _ 3 ?hg (N := 14) ?hd (xs := ([] : List Int)) (inner := []) (ok := fun _ => True) (okp := fun _ => True) ?hr ?hp (fun _ hk => hk) trivial (Below.refl _ _) (Nat.le_refl _) (by simp) ?_; (case hd => rfl); (case hg => rfl); (case hr => first | (go_simp; done) | (go_simp; rfl)); (case hp => exact (Reps.none _ _)); intro v229 w7 ho8 hb hg_ hnew_; clear hg_ hnew_; (first | rw [← Ny228.out] at ho8 | (simp only [Int.reduceToNat] at ho8; rw [← Ny228.out] at ho8)); have n0_ := aMk (Kd.R_lower ho8 (below_size (by repeat (first | (with_reducible first | exact HB.out | apply bAl | apply bDn | apply bD1) | exact HB.out)))); have n1_ := aMk (below_step (by repeat (first | (with_reducible first | exact HB.out | apply bAl | apply bDn | apply bD1) | exact HB.out)) hb); clear HB; have HO230 := n0_; have HB := n1_; clear n0_ n1_; clear hb ho8))
     go_ret
     exact ⟨_, by first | rfl | (simp [errW_none, errW_some] <;> rfl) | (simp [*, errW_none, errW_some] <;> rfl), by (with_reducible repeat (first | apply Kd.R_alloc | apply Kd.R_drewN | apply Kd.R_drew)); exact HO230.out, by repeat (first | (with_reducible first | exact HB.out | apply bAl | apply bDn | apply bD1) | exact HB.out)⟩
   · replace c6 := Bool.eq_false_iff.mpr c6
     subst c6
     have H1 : (spec_Spread.l0 kj2 a0 l1 0) = some r := by rw [if_neg (show ¬ (false = true) by decide)] at H; exact H
     clear H
     have H := H1
     clear H1
     have H' := aMk H
     clear H
     go_wp2
     go_loopg [5] kj2 (fun kq v5 w' => ∃ (x5_2 : Int), v5 = .int .i64 x5_2 ∧ Aside0 (spec_Spread.l0 kq a0 l1 x5_2 = some r) ∧ Aside0 (kq ≤ kj2) ∧ Aside0 (Below w.heap.size w w'))
     case atStart => exact ⟨(0), (by first | rfl | (simp; done) | (simp [*]; done)), H', ⟨Nat.le_refl _⟩, ⟨by repeat (first | (with_reducible first | exact HB.out | apply bAl | apply bDn | apply bD1) | exact HB.out)⟩⟩
     case round =>
      clear H'
      try clear c1
      try clear p2
      try clear c4
      try clear c4b0
      try clear c4b1
      try clear c6
      try clear p2
      obtain ⟨x5_2, rfl, HA, HK2, HB⟩ := hrel
      cases gk with
      | zero => exact absurd HA.out (by simp [spec_Spread.l0])
      | succ k2 =>
       have H := HA.out
       clear HA
       simp only [spec_Spread.l0] at H
       by_cases c9 : x5_2 < (l1.length : Int)
       · rw [if_pos c9] at H
         have c9b0 : decide (x5_2 < (l1.length : Int)) = true := decide_eq_true c9
         clear c9
         by_cases c10 : 0 ≤ x5_2
         · rw [if_pos c10] at H
           have c10b0 : decide (0 ≤ x5_2) = true := decide_eq_true c10
           clear c10
           replace H := oBm H
           obtain ⟨t232, A110, H⟩ := H
           replace H : (if t232 = true then (spec_Spread.l0 k2 a0 l1 (wrap64 (x5_2 + 1))) else (some (([] : List Int)))) = some r := H
           have A11 := aMk A110
           clear A110
           by_cases c12 : t232 = true
           · subst c12
             have H1 : (spec_Spread.l0 k2 a0 l1 (wrap64 (x5_2 + 1))) = some r := by rw [if_pos rfl] at H; exact H
             clear H
             have H := H1
             clear H1
             have H' := aMk H
             clear H
             have p231 : 0 ≤ (x5_2 : Int) := oDt (by first | (with_reducible assumption) | assumption)
             have q231 : x5_2 < (l1.length : Int) := oDt (by first | (with_reducible assumption) | assumption)
             obtain ⟨ad231, e231, hx231_0⟩ := Kd.at_int HR1.out x5_2 p231 q231
             cases e231
             replace hx231_0 := (HB.out.cell (wBl w _ hx231_0)).trans hx231_0
             replace p231 := eq_true p231
             replace q231 := eq_true q231
             go_wp2_with (first | ((with_reducible refine gate_callee (f := 54) rfl ?_); refine goesL_ (some 25) rfl rfl Try.func54 (by kernel_rfl) rfl #[.int .i64 (rd l1 x5_2), .int .i64 0, .int .i64 100000000000] rfl (by (try simp only [List.map_toArray, List.map_cons, List.map_nil]); first | done | rfl | (simp only [List.length_drop, List.length_take]; rfl)) ?_; (with_reducible refine (spec_l12In.calls (rd l1 x5_2) 0 100000000000 true _ A11.out).mono ?_); rintro e w' ⟨rfl, ⟨nd, rfl⟩⟩; refine ⟨_, rfl, ?_⟩))
             go_roundg k2
             case measure => have := HJ2.out; have := HK2.out; omega
             case rel => exact ⟨(wrap64 (x5_2 + 1)), (by first | rfl | (simp; done) | (simp [*]; done)), H', ⟨by have := HJ2.out; have := HK2.out; omega⟩, ⟨by repeat (first | (with_reducible first | exact HB.out | apply bAl | apply bDn | apply bD1) | exact HB.out)⟩⟩
           · replace c12 := Bool.eq_false_iff.mpr c12
             subst c12
             have H1 : (some (([] : List Int))) = some r := by rw [if_neg (show ¬ (false = true) by decide)] at H; exact H
             clear H
             have H := H1
             clear H1
             obtain ⟨y233, hy233⟩ : ∃ y_ : List Int, y_ = (([] : List Int)) := ⟨_, rfl⟩
             replace H : (some y233) = some r := by first | (rw [hy233]; with_reducible exact H) | (have H2_ := (Option.bind_some _ _).symm.trans H; rw [hy233]; with_reducible exact H2_) | (have H2_ := (Option.bind_some _ _).symm.trans H; with_reducible exact H2_) | with_reducible exact H | (rw [hy233]; exact H) | exact H
             have Ny233 := aMk hy233
             clear hy233
             obtain rfl := Option.some.inj H
             have p231 : 0 ≤ (x5_2 : Int) := oDt (by first | (with_reducible assumption) | assumption)
             have q231 : x5_2 < (l1.length : Int) := oDt (by first | (with_reducible assumption) | assumption)
             obtain ⟨ad231, e231, hx231_0⟩ := Kd.at_int HR1.out x5_2 p231 q231
             cases e231
             replace hx231_0 := (HB.out.cell (wBl w _ hx231_0)).trans hx231_0
             replace p231 := eq_true p231
             replace q231 := eq_true q231
             go_wp2_with (first | ((with_reducible refine gate_callee (f := 54) rfl ?_); refine goesL_ (some 25) rfl rfl Try.func54 (by kernel_rfl) rfl #[.int .i64 (rd l1 x5_2), .int .i64 0, .int .i64 100000000000] rfl (by (try simp only [List.map_toArray, List.map_cons, List.map_nil]); first | done | rfl | (simp only [List.length_drop, List.length_take]; rfl)) ?_; (with_reducible refine (spec_l12In.calls (rd l1 x5_2) 0 100000000000 false _ A11.out).mono ?_); rintro e w' ⟨rfl, ⟨nd, rfl⟩⟩; refine ⟨_, rfl, ?_⟩) | ((with_reducible refine gate_dst (N := 27) rfl ?_); refine Kd.R_lit (Kd.int .i64) _ 3 ?hg (N := 27) ?hd (xs := ([] : List Int)) (inner := []) (ok := fun _ => True) (okp := fun _ => True) ?hr ?hp (fun _ hk => hk) trivial (Below.refl _ _) (Nat.le_refl _) (by simp) ?_; (case hd => rfl); (case hg => rfl); (case hr => first | (go_simp; done) | (go_simp; rfl)); (case hp => exact (Reps.none _ _)); intro v234 w13 ho14 hb hg_ hnew_; clear hg_ hnew_; (first | rw [← Ny233.out] at ho14 | (simp only [Int.reduceToNat] at ho14; rw [← Ny233.out] at ho14)); have n0_ := aMk (Kd.R_lower ho14 (below_size (by repeat (first | (with_reducible first | exact HB.out | apply bAl | apply bDn | apply bD1) | exact HB.out)))); have n1_ := aMk (below_step (by repeat (first | (with_reducible first | exact HB.out | apply bAl | apply bDn | apply bD1) | exact HB.out)) hb); clear HB; have HO235 := n0_; have HB := n1_; clear n0_ n1_; clear hb ho14))
             go_ret
             exact ⟨_, by first | rfl | (simp [errW_none, errW_some] <;> rfl) | (simp [*, errW_none, errW_some] <;> rfl), by (with_reducible repeat (first | apply Kd.R_alloc | apply Kd.R_drewN | apply Kd.R_drew)); exact HO235.out, by repeat (first | (with_reducible first | exact HB.out | apply bAl | apply bDn | apply bD1) | exact HB.out)⟩
         · rw [if_neg c10] at H
           exact absurd H (by simp)
       · rw [if_neg c9] at H
         have c9b0 : decide (x5_2 < (l1.length : Int)) = false := decide_eq_false c9
         clear c9
         replace H := oBm H
         obtain ⟨t236, A150, H⟩ := H
         replace H : (some t236) = some r := H
         have A15 := aMk A150
         clear A150
         obtain rfl := Option.some.inj H
         go_wp2_with (first | ((with_reducible refine gate_callee (f := 94) rfl ?_); refine goesL_ (some 30) rfl rfl Try.func94 (by kernel_rfl) rfl #[.int .i64 a0, .slice A1 l1.length c1] rfl (by (try simp only [List.map_toArray, List.map_cons, List.map_nil]); first | done | rfl | (simp only [List.length_drop, List.length_take]; rfl)) ?_; (with_reducible refine (spec_l16Spread.calls k2 a0 _ _ l1 t236 _ ?side1 ?side2 A15.out).mono ?_); (case side1 => repeat (first | exact (Kd.C_below HR1.out HB.out) | (with_reducible refine Kd.C_alloc ?_ _) | (with_reducible refine Kd.C_drewN ?_ _) | (with_reducible refine Kd.C_drew ?_))); (case side2 => exact HC1.out); rintro e w16 ⟨v237, rfl, ho0, hb⟩; refine ⟨_, rfl, ?_⟩; have n0_ := aMk (Kd.R_lower ho0 (below_size (by repeat (first | (with_reducible first | exact HB.out | apply bAl | apply bDn | apply bD1) | exact HB.out)))); have n1_ := aMk (below_step (by repeat (first | (with_reducible first | exact HB.out | apply bAl | apply bDn | apply bD1) | exact HB.out)) hb); clear HB; have HO238 := n0_; have HB := n1_; clear n0_ n1_; (try clear hb); (try clear hb2); (try clear hk); (try clear hi); (try clear ho0)))
         go_ret
         exact ⟨_, by first | rfl | (simp [errW_none, errW_some] <;> rfl) | (simp [*, errW_none, errW_some] <;> rfl), by (with_reducible repeat (first | apply Kd.R_alloc | apply Kd.R_drewN | apply Kd.R_drew)); exact HO238.out, by repeat (first | (with_reducible first | exact HB.out | apply bAl | apply bDn | apply bD1) | exact HB.out)⟩
end Go.Proofs.Ytpknhndanbgkmaa.MFnShares
