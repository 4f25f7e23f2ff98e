-- Written by this session's own program (wip/gen/myprint.py).
import Derived.Test.YtmffcjjodkggcaaMFnExactFeedMorex0
import Derived.Test.YtmffcjjodkggcaaMFnExactFeedMorex2
import Derived.Test.YtmffcjjodkggcaaMFnExactFeedMorex3
namespace Go.Proofs.Ytmffcjjodkggcaa.MFnExactFeedMore
open Go.RowKit Go.Proofs.YtmffcjjodkggcaaW.PrintWords Go.Proofs.YtmffcjjodkggcaaW.PrintLast Go.Proofs.YtmffcjjodkggcaaW.PrintMore
attribute [local go_sem] max2_int min2_int max_two min_two max_three min_three max_four min_four   -- for this text's walks alone
set_option linter.unusedVariables false
set_option linter.unusedSimpArgs false
set_option maxHeartbeats 4000000 in
set_option maxRecDepth 100000 in
theorem clo_calls0b (gF gC : Nat) (A : Option Addr) (c : Nat) (l : List Int) (p : Bool) (r : ByteArray) (w : World) (hF : w.cell? ⟨gF, 1, none⟩ = some (.bool true)) (hC : w.cell? ⟨gC, 0, none⟩ = some (codV 0)) (hr : Kd.C (Kd.int .u8) w A l.length l) (hc : l.length ≤ c)
 (hread : ∀ (A1 : Option Addr) (c1 : Nat) (w1 : World), Kd.C (Kd.int .u8) w1 A1 (l).length (l) → (l).length ≤ c1 → Calls Try.prog 37 #[.agg #[], .slice A1 (l).length c1] w1 fun e w' => e = .returned (.string r) ∧ Below w1.heap.size w1 w') :
 Calls Try.prog 66 #[.slice A l.length c, .pointer (some ⟨gF, 0, none⟩), .pointer (some ⟨gC, 0, none⟩)] w fun e w' => e = .returned (.string r) ∧ Below w.heap.size w w' := by
 have HB := aMk (Below.refl w.heap.size w)
 have HR := aMk hr
 have HC := aMk hc
 have HRD := aMk hread
 have hu38 := Try.underlying38
 have hC1 : w.cell? ⟨gC, 0, none⟩ = some (.iface 54 (.agg #[])) := hC
 have hnot : ∀ (x : Bool) (w : World), (Op.unary .not (.bool x)).run Try.prog w = .ok (.bool (!x)) w := fun _ _ => rfl
 clear hr hc hC hread
 go_enter Try.func66, Try.ntmps66
 go_wp2_with (go_at_call 37; refine (HRD.out A c w HR.out HC.out).mono ?_; rintro e w' ⟨rfl, hb⟩; have HB3 := aMk hb; clear hb)
 all_goals (go_ret; exact ⟨rfl, HB3.out⟩)
set_option maxHeartbeats 4000000 in
set_option maxRecDepth 100000 in
theorem clo_calls0n (gF gC : Nat) (A : Option Addr) (c : Nat) (l : List Int) (p : Bool) (r : ByteArray) (w : World) (hF : w.cell? ⟨gF, 1, none⟩ = some (.bool false)) (hC : w.cell? ⟨gC, 0, none⟩ = some (codV 0)) (hr : Kd.C (Kd.int .u8) w A l.length l) (hc : l.length ≤ c) (hp : strings_HasPrefix.f (strOfNums l) (markB 0) = some p)
 (hread : ∀ (A1 : Option Addr) (c1 : Nat) (w1 : World), Kd.C (Kd.int .u8) w1 A1 (cutB 0 p l).length (cutB 0 p l) → (cutB 0 p l).length ≤ c1 → Calls Try.prog 37 #[.agg #[], .slice A1 (cutB 0 p l).length c1] w1 fun e w' => e = .returned (.string r) ∧ Below w1.heap.size w1 w') :
 Calls Try.prog 66 #[.slice A l.length c, .pointer (some ⟨gF, 0, none⟩), .pointer (some ⟨gC, 0, none⟩)] w fun e w' => e = .returned (.string r) ∧ Below w.heap.size w w' := by
 have HB := aMk (Below.refl w.heap.size w)
 have HR := aMk hr
 have HC := aMk hc
 have HP := aMk hp
 clear hp
 have HRD := aMk hread
 have hu38 := Try.underlying38
 have hC1 : w.cell? ⟨gC, 0, none⟩ = some (.iface 54 (.agg #[])) := hC
 have hnot : ∀ (x : Bool) (w : World), (Op.unary .not (.bool x)).run Try.prog w = .ok (.bool (!x)) w := fun _ _ => rfl
 clear hr hc hC hread
 go_enter Try.func66, Try.ntmps66
 go_wp2_with (first | (go_at_call 41; refine (bare_calls0 A c l p w HR.out HC.out HP.out (fun h => pre_le (by rw [← h]; exact HP.out))).mono ?_; rintro e w2 ⟨hb, A1, c1, rfl, hr2, hc2⟩; have hC2 := (hb.cell (wBl w _ hC1)).trans hC1; have HB2 := aMk hb; have HR2 := aMk (Kd.C_below hr2 hb); have HC2 := aMk hc2; clear hb hr2 hc2) | (go_at_call 37; refine (HRD.out A1 c1 w2 HR2.out HC2.out).mono ?_; rintro e w' ⟨rfl, hb⟩; have HB3 := aMk (below_step HB2.out hb); clear hb))
 all_goals (go_ret; exact ⟨rfl, HB3.out⟩)
set_option maxHeartbeats 4000000 in
set_option maxRecDepth 100000 in
theorem clo_calls1b (gF gC : Nat) (A : Option Addr) (c : Nat) (l : List Int) (p : Bool) (r : ByteArray) (w : World) (hF : w.cell? ⟨gF, 1, none⟩ = some (.bool true)) (hC : w.cell? ⟨gC, 0, none⟩ = some (codV 1)) (hr : Kd.C (Kd.int .u8) w A l.length l) (hc : l.length ≤ c)
 (hread : ∀ (A1 : Option Addr) (c1 : Nat) (w1 : World), Kd.C (Kd.int .u8) w1 A1 (l).length (l) → (l).length ≤ c1 → Calls Try.prog 97 #[.agg #[.bool false], .slice A1 (l).length c1] w1 fun e w' => e = .returned (.string r) ∧ Below w1.heap.size w1 w') :
 Calls Try.prog 66 #[.slice A l.length c, .pointer (some ⟨gF, 0, none⟩), .pointer (some ⟨gC, 0, none⟩)] w fun e w' => e = .returned (.string r) ∧ Below w.heap.size w w' := by
 have HB := aMk (Below.refl w.heap.size w)
 have HR := aMk hr
 have HC := aMk hc
 have HRD := aMk hread
 have hu38 := Try.underlying38
 have hC1 : w.cell? ⟨gC, 0, none⟩ = some (.iface 86 (.agg #[.bool false])) := hC
 have hnot : ∀ (x : Bool) (w : World), (Op.unary .not (.bool x)).run Try.prog w = .ok (.bool (!x)) w := fun _ _ => rfl
 clear hr hc hC hread
 go_enter Try.func66, Try.ntmps66
 go_wp2_with (go_at_call 97; refine (HRD.out A c w HR.out HC.out).mono ?_; rintro e w' ⟨rfl, hb⟩; have HB3 := aMk hb; clear hb)
 all_goals (go_ret; exact ⟨rfl, HB3.out⟩)
set_option maxHeartbeats 4000000 in
set_option maxRecDepth 100000 in
theorem clo_calls1n (gF gC : Nat) (A : Option Addr) (c : Nat) (l : List Int) (p : Bool) (r : ByteArray) (w : World) (hF : w.cell? ⟨gF, 1, none⟩ = some (.bool false)) (hC : w.cell? ⟨gC, 0, none⟩ = some (codV 1)) (hr : Kd.C (Kd.int .u8) w A l.length l) (hc : l.length ≤ c) (hp : strings_HasPrefix.f (strOfNums l) (markB 1) = some p)
 (hread : ∀ (A1 : Option Addr) (c1 : Nat) (w1 : World), Kd.C (Kd.int .u8) w1 A1 (cutB 1 p l).length (cutB 1 p l) → (cutB 1 p l).length ≤ c1 → Calls Try.prog 97 #[.agg #[.bool false], .slice A1 (cutB 1 p l).length c1] w1 fun e w' => e = .returned (.string r) ∧ Below w1.heap.size w1 w') :
 Calls Try.prog 66 #[.slice A l.length c, .pointer (some ⟨gF, 0, none⟩), .pointer (some ⟨gC, 0, none⟩)] w fun e w' => e = .returned (.string r) ∧ Below w.heap.size w w' := by
 have HB := aMk (Below.refl w.heap.size w)
 have HR := aMk hr
 have HC := aMk hc
 have HP := aMk hp
 clear hp
 have HRD := aMk hread
 have hu38 := Try.underlying38
 have hC1 : w.cell? ⟨gC, 0, none⟩ = some (.iface 86 (.agg #[.bool false])) := hC
 have hnot : ∀ (x : Bool) (w : World), (Op.unary .not (.bool x)).run Try.prog w = .ok (.bool (!x)) w := fun _ _ => rfl
 clear hr hc hC hread
 go_enter Try.func66, Try.ntmps66
 go_wp2_with (first | (go_at_call 41; refine (bare_calls1 A c l p w HR.out HC.out HP.out (fun h => pre_le (by rw [← h]; exact HP.out))).mono ?_; rintro e w2 ⟨hb, A1, c1, rfl, hr2, hc2⟩; have hC2 := (hb.cell (wBl w _ hC1)).trans hC1; have HB2 := aMk hb; have HR2 := aMk (Kd.C_below hr2 hb); have HC2 := aMk hc2; clear hb hr2 hc2) | (go_at_call 97; refine (HRD.out A1 c1 w2 HR2.out HC2.out).mono ?_; rintro e w' ⟨rfl, hb⟩; have HB3 := aMk (below_step HB2.out hb); clear hb))
 all_goals (go_ret; exact ⟨rfl, HB3.out⟩)
set_option maxHeartbeats 4000000 in
set_option maxRecDepth 100000 in
theorem clo_calls2b (gF gC : Nat) (A : Option Addr) (c : Nat) (l : List Int) (p : Bool) (r : ByteArray) (w : World) (hF : w.cell? ⟨gF, 1, none⟩ = some (.bool true)) (hC : w.cell? ⟨gC, 0, none⟩ = some (codV 2)) (hr : Kd.C (Kd.int .u8) w A l.length l) (hc : l.length ≤ c)
 (hread : ∀ (A1 : Option Addr) (c1 : Nat) (w1 : World), Kd.C (Kd.int .u8) w1 A1 (l).length (l) → (l).length ≤ c1 → Calls Try.prog 97 #[.agg #[.bool true], .slice A1 (l).length c1] w1 fun e w' => e = .returned (.string r) ∧ Below w1.heap.size w1 w') :
 Calls Try.prog 66 #[.slice A l.length c, .pointer (some ⟨gF, 0, none⟩), .pointer (some ⟨gC, 0, none⟩)] w fun e w' => e = .returned (.string r) ∧ Below w.heap.size w w' := by
 have HB := aMk (Below.refl w.heap.size w)
 have HR := aMk hr
 have HC := aMk hc
 have HRD := aMk hread
 have hu38 := Try.underlying38
 have hC1 : w.cell? ⟨gC, 0, none⟩ = some (.iface 86 (.agg #[.bool true])) := hC
 have hnot : ∀ (x : Bool) (w : World), (Op.unary .not (.bool x)).run Try.prog w = .ok (.bool (!x)) w := fun _ _ => rfl
 clear hr hc hC hread
 go_enter Try.func66, Try.ntmps66
 go_wp2_with (go_at_call 97; refine (HRD.out A c w HR.out HC.out).mono ?_; rintro e w' ⟨rfl, hb⟩; have HB3 := aMk hb; clear hb)
 all_goals (go_ret; exact ⟨rfl, HB3.out⟩)
set_option maxHeartbeats 4000000 in
set_option maxRecDepth 100000 in
theorem clo_calls2n (gF gC : Nat) (A : Option Addr) (c : Nat) (l : List Int) (p : Bool) (r : ByteArray) (w : World) (hF : w.cell? ⟨gF, 1, none⟩ = some (.bool false)) (hC : w.cell? ⟨gC, 0, none⟩ = some (codV 2)) (hr : Kd.C (Kd.int .u8) w A l.length l) (hc : l.length ≤ c) (hp : strings_HasPrefix.f (strOfNums l) (markB 2) = some p)
 (hread : ∀ (A1 : Option Addr) (c1 : Nat) (w1 : World), Kd.C (Kd.int .u8) w1 A1 (cutB 2 p l).length (cutB 2 p l) → (cutB 2 p l).length ≤ c1 → Calls Try.prog 97 #[.agg #[.bool true], .slice A1 (cutB 2 p l).length c1] w1 fun e w' => e = .returned (.string r) ∧ Below w1.heap.size w1 w') :
 Calls Try.prog 66 #[.slice A l.length c, .pointer (some ⟨gF, 0, none⟩), .pointer (some ⟨gC, 0, none⟩)] w fun e w' => e = .returned (.string r) ∧ Below w.heap.size w w' := by
 have HB := aMk (Below.refl w.heap.size w)
 have HR := aMk hr
 have HC := aMk hc
 have HP := aMk hp
 clear hp
 have HRD := aMk hread
 have hu38 := Try.underlying38
 have hC1 : w.cell? ⟨gC, 0, none⟩ = some (.iface 86 (.agg #[.bool true])) := hC
 have hnot : ∀ (x : Bool) (w : World), (Op.unary .not (.bool x)).run Try.prog w = .ok (.bool (!x)) w := fun _ _ => rfl
 clear hr hc hC hread
 go_enter Try.func66, Try.ntmps66
 go_wp2_with (first | (go_at_call 41; refine (bare_calls2 A c l p w HR.out HC.out HP.out (fun h => pre_le (by rw [← h]; exact HP.out))).mono ?_; rintro e w2 ⟨hb, A1, c1, rfl, hr2, hc2⟩; have hC2 := (hb.cell (wBl w _ hC1)).trans hC1; have HB2 := aMk hb; have HR2 := aMk (Kd.C_below hr2 hb); have HC2 := aMk hc2; clear hb hr2 hc2) | (go_at_call 97; refine (HRD.out A1 c1 w2 HR2.out HC2.out).mono ?_; rintro e w' ⟨rfl, hb⟩; have HB3 := aMk (below_step HB2.out hb); clear hb))
 all_goals (go_ret; exact ⟨rfl, HB3.out⟩)
set_option maxHeartbeats 4000000 in
set_option maxRecDepth 100000 in
theorem clo_calls3b (gF gC : Nat) (A : Option Addr) (c : Nat) (l : List Int) (p : Bool) (r : ByteArray) (w : World) (hF : w.cell? ⟨gF, 1, none⟩ = some (.bool true)) (hC : w.cell? ⟨gC, 0, none⟩ = some (codV 3)) (hr : Kd.C (Kd.int .u8) w A l.length l) (hc : l.length ≤ c)
 (hread : ∀ (A1 : Option Addr) (c1 : Nat) (w1 : World), Kd.C (Kd.int .u8) w1 A1 (l).length (l) → (l).length ≤ c1 → Calls Try.prog 103 #[.agg #[], .slice A1 (l).length c1] w1 fun e w' => e = .returned (.string r) ∧ Below w1.heap.size w1 w') :
 Calls Try.prog 66 #[.slice A l.length c, .pointer (some ⟨gF, 0, none⟩), .pointer (some ⟨gC, 0, none⟩)] w fun e w' => e = .returned (.string r) ∧ Below w.heap.size w w' := by
 have HB := aMk (Below.refl w.heap.size w)
 have HR := aMk hr
 have HC := aMk hc
 have HRD := aMk hread
 have hu38 := Try.underlying38
 have hC1 : w.cell? ⟨gC, 0, none⟩ = some (.iface 87 (.agg #[])) := hC
 have hnot : ∀ (x : Bool) (w : World), (Op.unary .not (.bool x)).run Try.prog w = .ok (.bool (!x)) w := fun _ _ => rfl
 clear hr hc hC hread
 go_enter Try.func66, Try.ntmps66
 go_wp2_with (go_at_call 103; refine (HRD.out A c w HR.out HC.out).mono ?_; rintro e w' ⟨rfl, hb⟩; have HB3 := aMk hb; clear hb)
 all_goals (go_ret; exact ⟨rfl, HB3.out⟩)
set_option maxHeartbeats 4000000 in
set_option maxRecDepth 100000 in
theorem clo_calls3n (gF gC : Nat) (A : Option Addr) (c : Nat) (l : List Int) (p : Bool) (r : ByteArray) (w : World) (hF : w.cell? ⟨gF, 1, none⟩ = some (.bool false)) (hC : w.cell? ⟨gC, 0, none⟩ = some (codV 3)) (hr : Kd.C (Kd.int .u8) w A l.length l) (hc : l.length ≤ c) (hp : strings_HasPrefix.f (strOfNums l) (markB 3) = some p)
 (hread : ∀ (A1 : Option Addr) (c1 : Nat) (w1 : World), Kd.C (Kd.int .u8) w1 A1 (cutB 3 p l).length (cutB 3 p l) → (cutB 3 p l).length ≤ c1 → Calls Try.prog 103 #[.agg #[], .slice A1 (cutB 3 p l).length c1] w1 fun e w' => e = .returned (.string r) ∧ Below w1.heap.size w1 w') :
 Calls Try.prog 66 #[.slice A l.length c, .pointer (some ⟨gF, 0, none⟩), .pointer (some ⟨gC, 0, none⟩)] w fun e w' => e = .returned (.string r) ∧ Below w.heap.size w w' := by
 have HB := aMk (Below.refl w.heap.size w)
 have HR := aMk hr
 have HC := aMk hc
 have HP := aMk hp
 clear hp
 have HRD := aMk hread
 have hu38 := Try.underlying38
 have hC1 : w.cell? ⟨gC, 0, none⟩ = some (.iface 87 (.agg #[])) := hC
 have hnot : ∀ (x : Bool) (w : World), (Op.unary .not (.bool x)).run Try.prog w = .ok (.bool (!x)) w := fun _ _ => rfl
 clear hr hc hC hread
 go_enter Try.func66, Try.ntmps66
 go_wp2_with (first | (go_at_call 41; refine (bare_calls3 A c l p w HR.out HC.out HP.out (fun h => pre_le (by rw [← h]; exact HP.out))).mono ?_; rintro e w2 ⟨hb, A1, c1, rfl, hr2, hc2⟩; have hC2 := (hb.cell (wBl w _ hC1)).trans hC1; have HB2 := aMk hb; have HR2 := aMk (Kd.C_below hr2 hb); have HC2 := aMk hc2; clear hb hr2 hc2) | (go_at_call 103; refine (HRD.out A1 c1 w2 HR2.out HC2.out).mono ?_; rintro e w' ⟨rfl, hb⟩; have HB3 := aMk (below_step HB2.out hb); clear hb))
 all_goals (go_ret; exact ⟨rfl, HB3.out⟩)
def feedCells (e : Int) (b : Bool) (A : Option Addr) (n c : Nat) : Array Value := #[.int .i64 e, .bool b, .slice A n c]
def Rdr (e : Nat) (b : Bool) (A : Option Addr) (n c : Nat) (w : World) (en : Ending) (w' : World) : Prop := ∃ gF gC, en = .returned (.tuple #[codV e, .func (.func 66) #[] #[.pointer (some ⟨gF, 0, none⟩), .pointer (some ⟨gC, 0, none⟩)]]) ∧ w'.heap[gF]? = some (.cells (feedCells e b A n c) 38 (0, 0)) ∧ w'.heap[gC]? = some (.cells #[codV e] 58 (0, 0)) ∧ Below w.heap.size w w'
def RdrNo (w : World) (en : Ending) (w' : World) : Prop := en = .returned (.tuple #[.nilIface, .nilFunc]) ∧ Below w.heap.size w w'
set_option maxHeartbeats 4000000 in
set_option maxRecDepth 100000 in
theorem rdr_calls0 (b : Bool) (A : Option Addr) (c : Nat) (l : List Int) (w : World) (hl : l.length ≤ 3) :
 Calls Try.prog 47 #[.agg #[.int .i64 0, .bool b, .slice A l.length c]] w (Rdr 0 b A l.length c w) := by
 have hu38 := Try.underlying38
 have hmf : ∀ (fn : Fn) (first cap : Array Value) (w : World), (Instr.makeFunc fn first cap).run Try.prog w = .ok (.func fn first cap) w := fun _ _ _ _ => rfl
 have l1 : decide (3 < (l.length : Int)) = false := decide_eq_false (by omega)
 have l2 : decide (3 < l.length) = false := decide_eq_false (by omega)
 have g1 : (w.alloc (.cells #[.int .i64 0, .bool b, .slice A l.length c] 38)).cell? ⟨w.heap.size, 1, none⟩ = some (.bool b) := by simp [World.cell?_alloc_new]
 have g2 : (w.alloc (.cells #[.int .i64 0, .bool b, .slice A l.length c] 38)).cell? ⟨w.heap.size, 2, none⟩ = some (.slice A l.length c) := by simp [World.cell?_alloc_new]
 have G1 := aMk g1
 have G2 := aMk g2
 have HB := aMk (bAl (Below.refl w.heap.size w) (.cells #[.int .i64 0, .bool b, .slice A l.length c] 38))
 clear hl g1 g2
 go_enter Try.func47, Try.ntmps47
 go_wp2_with (go_at_call 40; refine (cod_calls0 _).mono ?_; rintro e w1 ⟨rfl, hb⟩; simp only [codV]; have hc1 := (hb.cell (wBl _ _ G1.out)).trans G1.out; have hc2 := (hb.cell (wBl _ _ G2.out)).trans G2.out; have hz : w.heap.size < w1.heap.size := wBl _ _ hc1; have HK := aMk (blk_below (blk_new w (.cells #[.int .i64 0, .bool b, .slice A l.length c] 38)) hb); have HB1 := aMk (below_step HB.out hb); clear hb HB)
 go_ret2
 unfold Rdr
 exact ⟨_, _, rfl, blk_below HK.out (bAl (Below.refl _ _) _), blk_new _ _, bAl HB1.out _⟩
set_option maxHeartbeats 4000000 in
set_option maxRecDepth 100000 in
theorem rdr_long0 (b : Bool) (A : Option Addr) (c : Nat) (l : List Int) (w : World) (hl : ¬ l.length ≤ 3) :
 Calls Try.prog 47 #[.agg #[.int .i64 0, .bool b, .slice A l.length c]] w (RdrNo w) := by
 have hu38 := Try.underlying38
 have l1 : decide (3 < (l.length : Int)) = true := decide_eq_true (by omega)
 have l2 : decide (3 < l.length) = true := decide_eq_true (by omega)
 have g1 : (w.alloc (.cells #[.int .i64 0, .bool b, .slice A l.length c] 38)).cell? ⟨w.heap.size, 1, none⟩ = some (.bool b) := by simp [World.cell?_alloc_new]
 have g2 : (w.alloc (.cells #[.int .i64 0, .bool b, .slice A l.length c] 38)).cell? ⟨w.heap.size, 2, none⟩ = some (.slice A l.length c) := by simp [World.cell?_alloc_new]
 have G1 := aMk g1
 have G2 := aMk g2
 have HB := aMk (bAl (Below.refl w.heap.size w) (.cells #[.int .i64 0, .bool b, .slice A l.length c] 38))
 clear hl g1 g2
 go_enter Try.func47, Try.ntmps47
 go_wp2_with (go_at_call 40; refine (cod_calls0 _).mono ?_; rintro e w1 ⟨rfl, hb⟩; simp only [codV]; have hc1 := (hb.cell (wBl _ _ G1.out)).trans G1.out; have hc2 := (hb.cell (wBl _ _ G2.out)).trans G2.out; have hz : w.heap.size < w1.heap.size := wBl _ _ hc1; have HK := aMk (blk_below (blk_new w (.cells #[.int .i64 0, .bool b, .slice A l.length c] 38)) hb); have HB1 := aMk (below_step HB.out hb); clear hb HB)
 go_ret2
 unfold RdrNo
 exact ⟨rfl, bAl HB1.out _⟩
set_option maxHeartbeats 4000000 in
set_option maxRecDepth 100000 in
theorem rdr_calls1 (b : Bool) (A : Option Addr) (c : Nat) (l : List Int) (w : World) (hl : l.length ≤ 3) :
 Calls Try.prog 47 #[.agg #[.int .i64 1, .bool b, .slice A l.length c]] w (Rdr 1 b A l.length c w) := by
 have hu38 := Try.underlying38
 have hmf : ∀ (fn : Fn) (first cap : Array Value) (w : World), (Instr.makeFunc fn first cap).run Try.prog w = .ok (.func fn first cap) w := fun _ _ _ _ => rfl
 have l1 : decide (3 < (l.length : Int)) = false := decide_eq_false (by omega)
 have l2 : decide (3 < l.length) = false := decide_eq_false (by omega)
 have g1 : (w.alloc (.cells #[.int .i64 1, .bool b, .slice A l.length c] 38)).cell? ⟨w.heap.size, 1, none⟩ = some (.bool b) := by simp [World.cell?_alloc_new]
 have g2 : (w.alloc (.cells #[.int .i64 1, .bool b, .slice A l.length c] 38)).cell? ⟨w.heap.size, 2, none⟩ = some (.slice A l.length c) := by simp [World.cell?_alloc_new]
 have G1 := aMk g1
 have G2 := aMk g2
 have HB := aMk (bAl (Below.refl w.heap.size w) (.cells #[.int .i64 1, .bool b, .slice A l.length c] 38))
 clear hl g1 g2
 go_enter Try.func47, Try.ntmps47
 go_wp2_with (go_at_call 40; refine (cod_calls1 _).mono ?_; rintro e w1 ⟨rfl, hb⟩; simp only [codV]; have hc1 := (hb.cell (wBl _ _ G1.out)).trans G1.out; have hc2 := (hb.cell (wBl _ _ G2.out)).trans G2.out; have hz : w.heap.size < w1.heap.size := wBl _ _ hc1; have HK := aMk (blk_below (blk_new w (.cells #[.int .i64 1, .bool b, .slice A l.length c] 38)) hb); have HB1 := aMk (below_step HB.out hb); clear hb HB)
 go_ret2
 unfold Rdr
 exact ⟨_, _, rfl, blk_below HK.out (bAl (Below.refl _ _) _), blk_new _ _, bAl HB1.out _⟩
set_option maxHeartbeats 4000000 in
set_option maxRecDepth 100000 in
theorem rdr_long1 (b : Bool) (A : Option Addr) (c : Nat) (l : List Int) (w : World) (hl : ¬ l.length ≤ 3) :
 Calls Try.prog 47 #[.agg #[.int .i64 1, .bool b, .slice A l.length c]] w (RdrNo w) := by
 have hu38 := Try.underlying38
 have l1 : decide (3 < (l.length : Int)) = true := decide_eq_true (by omega)
 have l2 : decide (3 < l.length) = true := decide_eq_true (by omega)
 have g1 : (w.alloc (.cells #[.int .i64 1, .bool b, .slice A l.length c] 38)).cell? ⟨w.heap.size, 1, none⟩ = some (.bool b) := by simp [World.cell?_alloc_new]
 have g2 : (w.alloc (.cells #[.int .i64 1, .bool b, .slice A l.length c] 38)).cell? ⟨w.heap.size, 2, none⟩ = some (.slice A l.length c) := by simp [World.cell?_alloc_new]
 have G1 := aMk g1
 have G2 := aMk g2
 have HB := aMk (bAl (Below.refl w.heap.size w) (.cells #[.int .i64 1, .bool b, .slice A l.length c] 38))
 clear hl g1 g2
 go_enter Try.func47, Try.ntmps47
 go_wp2_with (go_at_call 40; refine (cod_calls1 _).mono ?_; rintro e w1 ⟨rfl, hb⟩; simp only [codV]; have hc1 := (hb.cell (wBl _ _ G1.out)).trans G1.out; have hc2 := (hb.cell (wBl _ _ G2.out)).trans G2.out; have hz : w.heap.size < w1.heap.size := wBl _ _ hc1; have HK := aMk (blk_below (blk_new w (.cells #[.int .i64 1, .bool b, .slice A l.length c] 38)) hb); have HB1 := aMk (below_step HB.out hb); clear hb HB)
 go_ret2
 unfold RdrNo
 exact ⟨rfl, bAl HB1.out _⟩
set_option maxHeartbeats 4000000 in
set_option maxRecDepth 100000 in
theorem rdr_calls2 (b : Bool) (A : Option Addr) (c : Nat) (l : List Int) (w : World) (hl : l.length ≤ 3) :
 Calls Try.prog 47 #[.agg #[.int .i64 2, .bool b, .slice A l.length c]] w (Rdr 2 b A l.length c w) := by
 have hu38 := Try.underlying38
 have hmf : ∀ (fn : Fn) (first cap : Array Value) (w : World), (Instr.makeFunc fn first cap).run Try.prog w = .ok (.func fn first cap) w := fun _ _ _ _ => rfl
 have l1 : decide (3 < (l.length : Int)) = false := decide_eq_false (by omega)
 have l2 : decide (3 < l.length) = false := decide_eq_false (by omega)
 have g1 : (w.alloc (.cells #[.int .i64 2, .bool b, .slice A l.length c] 38)).cell? ⟨w.heap.size, 1, none⟩ = some (.bool b) := by simp [World.cell?_alloc_new]
 have g2 : (w.alloc (.cells #[.int .i64 2, .bool b, .slice A l.length c] 38)).cell? ⟨w.heap.size, 2, none⟩ = some (.slice A l.length c) := by simp [World.cell?_alloc_new]
 have G1 := aMk g1
 have G2 := aMk g2
 have HB := aMk (bAl (Below.refl w.heap.size w) (.cells #[.int .i64 2, .bool b, .slice A l.length c] 38))
 clear hl g1 g2
 go_enter Try.func47, Try.ntmps47
 go_wp2_with (go_at_call 40; refine (cod_calls2 _).mono ?_; rintro e w1 ⟨rfl, hb⟩; simp only [codV]; have hc1 := (hb.cell (wBl _ _ G1.out)).trans G1.out; have hc2 := (hb.cell (wBl _ _ G2.out)).trans G2.out; have hz : w.heap.size < w1.heap.size := wBl _ _ hc1; have HK := aMk (blk_below (blk_new w (.cells #[.int .i64 2, .bool b, .slice A l.length c] 38)) hb); have HB1 := aMk (below_step HB.out hb); clear hb HB)
 go_ret2
 unfold Rdr
 exact ⟨_, _, rfl, blk_below HK.out (bAl (Below.refl _ _) _), blk_new _ _, bAl HB1.out _⟩
set_option maxHeartbeats 4000000 in
set_option maxRecDepth 100000 in
theorem rdr_long2 (b : Bool) (A : Option Addr) (c : Nat) (l : List Int) (w : World) (hl : ¬ l.length ≤ 3) :
 Calls Try.prog 47 #[.agg #[.int .i64 2, .bool b, .slice A l.length c]] w (RdrNo w) := by
 have hu38 := Try.underlying38
 have l1 : decide (3 < (l.length : Int)) = true := decide_eq_true (by omega)
 have l2 : decide (3 < l.length) = true := decide_eq_true (by omega)
 have g1 : (w.alloc (.cells #[.int .i64 2, .bool b, .slice A l.length c] 38)).cell? ⟨w.heap.size, 1, none⟩ = some (.bool b) := by simp [World.cell?_alloc_new]
 have g2 : (w.alloc (.cells #[.int .i64 2, .bool b, .slice A l.length c] 38)).cell? ⟨w.heap.size, 2, none⟩ = some (.slice A l.length c) := by simp [World.cell?_alloc_new]
 have G1 := aMk g1
 have G2 := aMk g2
 have HB := aMk (bAl (Below.refl w.heap.size w) (.cells #[.int .i64 2, .bool b, .slice A l.length c] 38))
 clear hl g1 g2
 go_enter Try.func47, Try.ntmps47
 go_wp2_with (go_at_call 40; refine (cod_calls2 _).mono ?_; rintro e w1 ⟨rfl, hb⟩; simp only [codV]; have hc1 := (hb.cell (wBl _ _ G1.out)).trans G1.out; have hc2 := (hb.cell (wBl _ _ G2.out)).trans G2.out; have hz : w.heap.size < w1.heap.size := wBl _ _ hc1; have HK := aMk (blk_below (blk_new w (.cells #[.int .i64 2, .bool b, .slice A l.length c] 38)) hb); have HB1 := aMk (below_step HB.out hb); clear hb HB)
 go_ret2
 unfold RdrNo
 exact ⟨rfl, bAl HB1.out _⟩
set_option maxHeartbeats 4000000 in
set_option maxRecDepth 100000 in
theorem rdr_calls3 (b : Bool) (A : Option Addr) (c : Nat) (l : List Int) (w : World) (hl : l.length ≤ 3) :
 Calls Try.prog 47 #[.agg #[.int .i64 3, .bool b, .slice A l.length c]] w (Rdr 3 b A l.length c w) := by
 have hu38 := Try.underlying38
 have hmf : ∀ (fn : Fn) (first cap : Array Value) (w : World), (Instr.makeFunc fn first cap).run Try.prog w = .ok (.func fn first cap) w := fun _ _ _ _ => rfl
 have l1 : decide (3 < (l.length : Int)) = false := decide_eq_false (by omega)
 have l2 : decide (3 < l.length) = false := decide_eq_false (by omega)
 have g1 : (w.alloc (.cells #[.int .i64 3, .bool b, .slice A l.length c] 38)).cell? ⟨w.heap.size, 1, none⟩ = some (.bool b) := by simp [World.cell?_alloc_new]
 have g2 : (w.alloc (.cells #[.int .i64 3, .bool b, .slice A l.length c] 38)).cell? ⟨w.heap.size, 2, none⟩ = some (.slice A l.length c) := by simp [World.cell?_alloc_new]
 have G1 := aMk g1
 have G2 := aMk g2
 have HB := aMk (bAl (Below.refl w.heap.size w) (.cells #[.int .i64 3, .bool b, .slice A l.length c] 38))
 clear hl g1 g2
 go_enter Try.func47, Try.ntmps47
 go_wp2_with (go_at_call 40; refine (cod_calls3 _).mono ?_; rintro e w1 ⟨rfl, hb⟩; simp only [codV]; have hc1 := (hb.cell (wBl _ _ G1.out)).trans G1.out; have hc2 := (hb.cell (wBl _ _ G2.out)).trans G2.out; have hz : w.heap.size < w1.heap.size := wBl _ _ hc1; have HK := aMk (blk_below (blk_new w (.cells #[.int .i64 3, .bool b, .slice A l.length c] 38)) hb); have HB1 := aMk (below_step HB.out hb); clear hb HB)
 go_ret2
 unfold Rdr
 exact ⟨_, _, rfl, blk_below HK.out (bAl (Below.refl _ _) _), blk_new _ _, bAl HB1.out _⟩
set_option maxHeartbeats 4000000 in
set_option maxRecDepth 100000 in
theorem rdr_long3 (b : Bool) (A : Option Addr) (c : Nat) (l : List Int) (w : World) (hl : ¬ l.length ≤ 3) :
 Calls Try.prog 47 #[.agg #[.int .i64 3, .bool b, .slice A l.length c]] w (RdrNo w) := by
 have hu38 := Try.underlying38
 have l1 : decide (3 < (l.length : Int)) = true := decide_eq_true (by omega)
 have l2 : decide (3 < l.length) = true := decide_eq_true (by omega)
 have g1 : (w.alloc (.cells #[.int .i64 3, .bool b, .slice A l.length c] 38)).cell? ⟨w.heap.size, 1, none⟩ = some (.bool b) := by simp [World.cell?_alloc_new]
 have g2 : (w.alloc (.cells #[.int .i64 3, .bool b, .slice A l.length c] 38)).cell? ⟨w.heap.size, 2, none⟩ = some (.slice A l.length c) := by simp [World.cell?_alloc_new]
 have G1 := aMk g1
 have G2 := aMk g2
 have HB := aMk (bAl (Below.refl w.heap.size w) (.cells #[.int .i64 3, .bool b, .slice A l.length c] 38))
 clear hl g1 g2
 go_enter Try.func47, Try.ntmps47
 go_wp2_with (go_at_call 40; refine (cod_calls3 _).mono ?_; rintro e w1 ⟨rfl, hb⟩; simp only [codV]; have hc1 := (hb.cell (wBl _ _ G1.out)).trans G1.out; have hc2 := (hb.cell (wBl _ _ G2.out)).trans G2.out; have hz : w.heap.size < w1.heap.size := wBl _ _ hc1; have HK := aMk (blk_below (blk_new w (.cells #[.int .i64 3, .bool b, .slice A l.length c] 38)) hb); have HB1 := aMk (below_step HB.out hb); clear hb HB)
 go_ret2
 unfold RdrNo
 exact ⟨rfl, bAl HB1.out _⟩
set_option maxHeartbeats 4000000 in
set_option maxRecDepth 100000 in
theorem rdr_none (a : Int) (b : Bool) (A : Option Addr) (c : Nat) (l : List Int) (w : World) (h0 : a ≠ 0) (h1 : a ≠ 1) (h2 : a ≠ 2) (h3 : a ≠ 3) :
 Calls Try.prog 47 #[.agg #[.int .i64 a, .bool b, .slice A l.length c]] w (RdrNo w) := by
 have hu38 := Try.underlying38
 have HN := aMk (cod_callsN a (w.alloc (.cells #[.int .i64 a, .bool b, .slice A l.length c] 38)) h0 h1 h2 h3)
 have hl : True := trivial
 clear h0 h1 h2 h3
 have g1 : (w.alloc (.cells #[.int .i64 a, .bool b, .slice A l.length c] 38)).cell? ⟨w.heap.size, 1, none⟩ = some (.bool b) := by simp [World.cell?_alloc_new]
 have g2 : (w.alloc (.cells #[.int .i64 a, .bool b, .slice A l.length c] 38)).cell? ⟨w.heap.size, 2, none⟩ = some (.slice A l.length c) := by simp [World.cell?_alloc_new]
 have G1 := aMk g1
 have G2 := aMk g2
 have HB := aMk (bAl (Below.refl w.heap.size w) (.cells #[.int .i64 a, .bool b, .slice A l.length c] 38))
 clear hl g1 g2
 go_enter Try.func47, Try.ntmps47
 go_wp2_with (go_at_call 40; refine (HN.out).mono ?_; rintro e w1 ⟨rfl, hb⟩; simp only [codV]; have hc1 := (hb.cell (wBl _ _ G1.out)).trans G1.out; have hc2 := (hb.cell (wBl _ _ G2.out)).trans G2.out; have hz : w.heap.size < w1.heap.size := wBl _ _ hc1; have HK := aMk (blk_below (blk_new w (.cells #[.int .i64 a, .bool b, .slice A l.length c] 38)) hb); have HB1 := aMk (below_step HB.out hb); clear hb HB)
 go_ret2
 unfold RdrNo
 exact ⟨rfl, bAl HB1.out _⟩
def rdF (k e : Nat) (b : Bool) (l : List Int) : Option ByteArray := if b = true then readK k e l else (strings_HasPrefix.f (strOfNums l) (markB e)).bind fun p => readK k e (cutB e p l)
theorem readK_calls0 (k : Nat) (l : List Int) (r : ByteArray) (hall : ∀ x ∈ l, 0 ≤ x ∧ x ≤ 255) (hl : l.length ≤ 1099511627776) (h : readK k 0 l = some r) (A1 : Option Addr) (c1 : Nat) (w1 : World) (h1 : Kd.C (Kd.int .u8) w1 A1 l.length l) (h2 : l.length ≤ c1) :
 Calls Try.prog 37 #[.agg #[], .slice A1 l.length c1] w1 fun e w' => e = .returned (.string r) ∧ Below w1.heap.size w1 w' := by
 obtain rfl := Option.some.inj h
 exact read_calls A1 c1 _ .nilIface w1 h1 h2 hl hall
theorem readK_calls1 (k : Nat) (l : List Int) (r : ByteArray) (h : readK k 1 l = some r) (A1 : Option Addr) (c1 : Nat) (w1 : World) (h1 : Kd.C (Kd.int .u8) w1 A1 l.length l) (h2 : l.length ≤ c1) :
 Calls Try.prog 97 #[.agg #[.bool false], .slice A1 l.length c1] w1 fun e w' => e = .returned (.string r) ∧ Below w1.heap.size w1 w' :=
 impl_pairCoding_read.calls k false (fun k => k < w1.heap.size) A1 c1 _ r w1 (u8_V h1 h2) h
theorem readK_calls2 (k : Nat) (l : List Int) (r : ByteArray) (h : readK k 2 l = some r) (A1 : Option Addr) (c1 : Nat) (w1 : World) (h1 : Kd.C (Kd.int .u8) w1 A1 l.length l) (h2 : l.length ≤ c1) :
 Calls Try.prog 97 #[.agg #[.bool true], .slice A1 l.length c1] w1 fun e w' => e = .returned (.string r) ∧ Below w1.heap.size w1 w' :=
 impl_pairCoding_read.calls k true (fun k => k < w1.heap.size) A1 c1 _ r w1 (u8_V h1 h2) h
theorem readK_calls3 (k : Nat) (l : List Int) (r : ByteArray) (hall : ∀ x ∈ l, 0 ≤ x ∧ x ≤ 255) (hl : l.length ≤ 1099511627776) (h : readK k 3 l = some r) (A1 : Option Addr) (c1 : Nat) (w1 : World) (h1 : Kd.C (Kd.int .u8) w1 A1 l.length l) (h2 : l.length ≤ c1) :
 Calls Try.prog 103 #[.agg #[], .slice A1 l.length c1] w1 fun e w' => e = .returned (.string r) ∧ Below w1.heap.size w1 w' := by
 obtain rfl := Option.some.inj h
 exact latin_calls A1 c1 _ w1 h1 h2 hl hall
theorem clo_calls (k e : Nat) (he : e ≤ 3) (b : Bool) (gF gC : Nat) (A : Option Addr) (c : Nat) (l : List Int) (r : ByteArray) (w : World) (hF : w.cell? ⟨gF, 1, none⟩ = some (.bool b)) (hC : w.cell? ⟨gC, 0, none⟩ = some (codV e)) (hr : Kd.C (Kd.int .u8) w A l.length l) (hc : l.length ≤ c) (hall : ∀ x ∈ l, 0 ≤ x ∧ x ≤ 255) (hl : l.length ≤ 1099511627776) (h : rdF k e b l = some r) :
 Calls Try.prog 66 #[.slice A l.length c, .pointer (some ⟨gF, 0, none⟩), .pointer (some ⟨gC, 0, none⟩)] w fun e w' => e = .returned (.string r) ∧ Below w.heap.size w w' := by
 unfold rdF at h
 cases b with
 | true =>
  rw [if_pos rfl] at h
  obtain rfl | rfl | rfl | rfl : e = 0 ∨ e = 1 ∨ e = 2 ∨ e = 3 := by omega
  · exact clo_calls0b gF gC A c l true r w hF hC hr hc (readK_calls0 k l r hall hl h)
  · exact clo_calls1b gF gC A c l true r w hF hC hr hc (readK_calls1 k l r h)
  · exact clo_calls2b gF gC A c l true r w hF hC hr hc (readK_calls2 k l r h)
  · exact clo_calls3b gF gC A c l true r w hF hC hr hc (readK_calls3 k l r hall hl h)
 | false =>
  rw [if_neg (by decide)] at h
  obtain ⟨p, hp, h⟩ := Option.bind_eq_some_iff.1 h
  have hz := cutB_len (l := l) e p
  have ha := cutB_all (l := l) e p hall
  obtain rfl | rfl | rfl | rfl : e = 0 ∨ e = 1 ∨ e = 2 ∨ e = 3 := by omega
  · exact clo_calls0n gF gC A c l p r w hF hC hr hc hp (readK_calls0 k _ r ha (by omega) h)
  · exact clo_calls1n gF gC A c l p r w hF hC hr hc hp (readK_calls1 k _ r h)
  · exact clo_calls2n gF gC A c l p r w hF hC hr hc hp (readK_calls2 k _ r h)
  · exact clo_calls3n gF gC A c l p r w hF hC hr hc hp (readK_calls3 k _ r ha (by omega) h)
def impl_pairCoding_keep.f (a0_0 : Bool) (l1 : List Int) : Option (Int) := if (wrap64 ((wrap64 ((l1.length : Int) - ((l1.length : Int) % 2))) - 2)) ≥ 0 then (if 0 ≤ (wrap64 ((wrap64 ((l1.length : Int) - ((l1.length : Int) % 2))) - 2)) then (if (wrap64 ((wrap64 ((l1.length : Int) - ((l1.length : Int) % 2))) - 2)) ≤ (l1.length : Int) then ((impl_pairCoding_number.f a0_0 (l1.drop ((wrap64 ((wrap64 ((l1.length : Int) - ((l1.length : Int) % 2))) - 2)) : Int).toNat)).bind fun t170 => ((impl_isHigh.f t170).bind fun t171 => (if t171 = true then (some (((l1.length : Int) % 2) + 2)) else (some ((l1.length : Int) % 2))))) else (none)) else (none)) else (some ((l1.length : Int) % 2))
def impl_pairCoding_keep.T3 : Bool × List (List Nat × List Nat) := (true, [([], []), ([0], [0]), ([1], [1]), ([2], [2]), ([2], [2]), ([2], [2]), ([4, 5, 2], [2, 4, 5]), ([3, 6, 2, 2], [2, 3, 6]), ([7, 7, 2], [2, 7]), ([2, 8], [2, 8])])
def impl_pairCoding_keep.B3 : List Nat := [0, 1, 3, 7, 7, 7, 55, 127, 255, 511]
theorem impl_pairCoding_keep.tab3 : rtab .any (opsOf Try.f95 3) = impl_pairCoding_keep.T3 := by kernel_rfl
theorem impl_pairCoding_keep.bits3 : waitsOk impl_pairCoding_keep.T3.2 impl_pairCoding_keep.B3 = true := by kernel_rfl
set_option maxHeartbeats 8000000 in
set_option maxRecDepth 100000 in
theorem impl_pairCoding_keep.calls (a0_0 : Bool) (A1 : Option Addr) (c1 : Nat) (l1 : List Int) (r : Int) (w : World) (hr1 : Kd.C (Kd.int .u8) w A1 l1.length l1) (hc1 : l1.length ≤ c1) (h : impl_pairCoding_keep.f a0_0 l1 = some r) :
 Calls Try.prog 95 #[.agg #[.bool a0_0], .slice A1 l1.length c1] w fun e w' => e = .returned (.int .i64 r) ∧ Below w.heap.size w w' := by
 have hu86 := Try.underlying86
 have HR1 := aMk hr1
 have HC1 := aMk hc1
 clear hr1 hc1
 have HB := aMk (Below.refl w.heap.size w)
 have H : (if (wrap64 ((wrap64 ((l1.length : Int) - ((l1.length : Int) % 2))) - 2)) ≥ 0 then (if 0 ≤ (wrap64 ((wrap64 ((l1.length : Int) - ((l1.length : Int) % 2))) - 2)) then (if (wrap64 ((wrap64 ((l1.length : Int) - ((l1.length : Int) % 2))) - 2)) ≤ (l1.length : Int) then ((impl_pairCoding_number.f a0_0 (l1.drop ((wrap64 ((wrap64 ((l1.length : Int) - ((l1.length : Int) % 2))) - 2)) : Int).toNat)).bind fun t170 => ((impl_isHigh.f t170).bind fun t171 => (if t171 = true then (some (((l1.length : Int) % 2) + 2)) else (some ((l1.length : Int) % 2))))) else (none)) else (none)) else (some ((l1.length : Int) % 2))) = some r := h
 clear h
 by_cases c3 : (wrap64 ((wrap64 ((l1.length : Int) - ((l1.length : Int) % 2))) - 2)) ≥ 0
 · rw [if_pos c3] at H
   have c3b0 : decide (0 ≤ (wrap64 ((wrap64 ((l1.length : Int) - ((l1.length : Int) % 2))) - 2))) = true := decide_eq_true c3
   clear c3
   obtain ⟨ji4, hji4⟩ : ∃ j_ : Int, (wrap64 ((wrap64 ((l1.length : Int) - ((l1.length : Int) % 2))) - 2)) = j_ := ⟨_, rfl⟩
   replace H : (if 0 ≤ (ji4) then (if (ji4) ≤ (l1.length : Int) then ((impl_pairCoding_number.f a0_0 (l1.drop ((ji4) : Int).toNat)).bind fun t170 => ((impl_isHigh.f t170).bind fun t171 => (if t171 = true then (some (((l1.length : Int) % 2) + 2)) else (some ((l1.length : Int) % 2))))) else (none)) else (none)) = some r := by first | (rw [hji4] at H; exact H) | (simp only [hji4] at H ⊢; exact H)
   (try rw [hji4] at c3b0)
   have hji4w : (IntKind.i64.wrap ((wrap64 ((l1.length : Int) - ((l1.length : Int) % 2))) - 2)) = ji4 := (i64_w _).trans hji4
   by_cases c5 : 0 ≤ (ji4)
   · rw [if_pos c5] at H
     have c5b0 := eq_true c5
     have c5b1 : decide (0 ≤ (ji4)) = true := decide_eq_true c5
     clear c5
     by_cases c6 : (ji4) ≤ (l1.length : Int)
     · rw [if_pos c6] at H
       have c6b0 := eq_true c6
       have c6b1 : decide ((ji4) ≤ (l1.length : Int)) = true := decide_eq_true c6
       clear c6
       replace H := oBm H
       obtain ⟨t170, A70, H⟩ := H
       replace H : ((impl_isHigh.f t170).bind fun t171 => (if t171 = true then (some (((l1.length : Int) % 2) + 2)) else (some ((l1.length : Int) % 2)))) = some r := H
       have A7 := aMk A70
       clear A70
       replace H := oBm H
       obtain ⟨t171, A80, H⟩ := H
       replace H : (if t171 = true then (some (((l1.length : Int) % 2) + 2)) else (some ((l1.length : Int) % 2))) = some r := H
       have A8 := aMk A80
       clear A80
       by_cases c9 : t171 = true
       · subst c9
         have H1 : (some (((l1.length : Int) % 2) + 2)) = some r := by rw [if_pos rfl] at H; exact H
         clear H
         have H := H1
         clear H1
         obtain rfl := Option.some.inj H
         go_enter Try.func95, Try.ntmps95
         try go_wp2_with (first | ((with_reducible refine gate_dst (N := 2) rfl ?_); refine box_event ?hg (N := 2) ?hd (cs := #[.bool a0_0]) (t := 86) ?hr ?_; (case hd => rfl); (case hg => rfl); (case hr => first | (go_simp; done) | (go_simp; rfl)); intro gb168 hg w10 hbox hb; have n0_ := aMk (below_step (by repeat (first | (with_reducible first | exact HB.out | apply bAl | apply bDn | apply bD1) | exact HB.out)) hb); have n1_ := aMk (hbox); have n2_ := aMk ((by rw [hg]; exact (below_size (by repeat (first | (with_reducible first | exact HB.out | apply bAl | apply bDn | apply bD1) | exact HB.out))) : w.heap.size ≤ gb168)); have n3_ := aMk ((by rw [hg]; exact (below_size (by repeat (first | (with_reducible first | exact HB.out | apply bAl | apply bDn | apply bD1) | exact HB.out))) : w.heap.size ≤ gb168)); clear HB; have HB := n0_; have BK168 := n1_; have GW168 := n2_; have GE168 := n3_; clear n0_ n1_ n2_ n3_; clear hb hbox hg))
         have n0_ := aMk (blk_drew BK168.out)
         have n1_ := aMk (bD1 HB.out)
         clear BK168
         clear HB
         have BK168 := n0_
         have HB := n1_
         clear n0_ n1_
         obtain ⟨i012, hi012, _, hsz12, _⟩ := info_parts info5
         obtain ⟨A12, hcut12, hA12, hC12⟩ := print_drop_of (P := Try.prog) (Value.int .u8) 0 22 5 .i64 Try.underlying22 hi012 hsz12 A1 c1 l1 (ji4) (oDt (by first | (with_reducible assumption) | assumption)) (oDt (by first | (with_reducible assumption) | assumption)) HC1.out
         have HR169 := aMk (Kd.C_of_reads (h1 := fun _ => rfl) (hA12 _ (Kd.reads_of_C HR1.out)))
         have HC169 := aMk hC12
         clear hA12 hC12 hi012 hsz12
         refine start_ (n := 10) (S := fun w' => w'.cell? ⟨gb168, 0, none⟩ = some (.bool a0_0)) (ds := []) #[false, false, false, false, false, false, false, false, false, false] (by kernel_rfl) rfl rfl ((bCe BK168.out 0).trans rfl) (fun hHeld => ?_); refine with_tabW impl_pairCoding_keep.tab3 impl_pairCoding_keep.bits3 (fun HT_ HW_ => ?_)
         generalize w10.drew = w11 at BK168 HB HR169 hHeld ⊢
         refine pure_ (i := 0) (N := some 15) (v := ?_) (a' := ?_) #[true, false, false, false, false, false, false, false, false, false] rfl rfl (any_of HT_.out (by kernel_rfl)) (fun _ _ _ h => h) (Or.inl ⟨by rfl, ?_⟩) ?_ ?_
         rotate_left
         · intro w'
           go_simp
           with_reducible rfl
         rotate_left
         · simp only [Act.put, lSa, lSz, lSs, i64_w, i32_w]
           rfl
         refine pure_ (i := 1) (N := some 16) (v := ?_) (a' := ?_) #[true, true, false, false, false, false, false, false, false, false] rfl rfl (any_of HT_.out (by kernel_rfl)) (fun _ _ _ h => h) (Or.inl ⟨by rfl, ?_⟩) ?_ ?_
         rotate_left
         · intro w'
           go_simp
           with_reducible rfl
         rotate_left
         · simp only [Act.put, lSa, lSz, lSs, i64_w, i32_w]
           rfl
         refine pure_ (i := 2) (N := some 17) (v := ?_) (a' := ?_) #[true, true, true, false, false, false, false, false, false, false] rfl rfl (any_of HT_.out (by kernel_rfl)) (fun _ _ _ h => h) (Or.inl ⟨by rfl, ?_⟩) ?_ ?_
         rotate_left
         · intro w'
           go_simp
           with_reducible rfl
         rotate_left
         · simp only [Act.put, lSa, lSz, lSs, i64_w, i32_w]
           rfl
         refine pure_ (i := 4) (N := some 19) (v := ?_) (a' := ?_) #[true, true, true, false, true, false, false, false, false, false] rfl rfl (any_of HT_.out (by kernel_rfl)) (fun _ _ _ h => h) (Or.inl ⟨by rfl, ?_⟩) ?_ ?_
         rotate_left
         · intro w'
           go_simp
           with_reducible rfl
         rotate_left
         · simp only [Act.put, lSa, lSz, lSs, i64_w, i32_w]
           rfl
         refine pure_ (i := 5) (N := some 20) (v := ?_) (a' := ?_) #[true, true, true, false, true, true, false, false, false, false] rfl rfl (any_of HT_.out (by kernel_rfl)) (fun _ _ _ h => h) (Or.inl ⟨by rfl, ?_⟩) ?_ ?_
         rotate_left
         · intro w'
           go_simp
           with_reducible rfl
         rotate_left
         · simp only [Act.put, lSa, lSz, lSs, i64_w, i32_w]
           rfl
         refine pure_ (i := 6) (N := some 21) (v := ?_) (a' := ?_) #[true, true, true, false, true, true, true, false, false, false] rfl rfl (any_of HT_.out (by kernel_rfl)) (fun _ _ _ h => h) (Or.inl ⟨by rfl, ?_⟩) ?_ ?_
         rotate_left
         · intro w'
           go_simp
           with_reducible rfl
         rotate_left
         · simp only [Act.put, lSa, lSz, lSs, i64_w, i32_w]
           rfl
         refine take_ (i := 3) (N := some 18) (v := ?_) (a' := ?_) #[true, true, true, true, true, true, true, false, false, false] rfl rfl (take_ofW HT_.out HW_.out (by kernel_rfl)) (fun _ _ _ h => h) (Or.inl ⟨by rfl, ?_⟩) hHeld ?_ ?_
         rotate_left
         · intro w' s0
           go_simp
           with_reducible rfl
         rotate_left
         · simp only [Act.put, lSa, lSz, lSs, i64_w, i32_w]
           rfl
         refine one_ (i := 7) (N := some 22) #[true, true, true, true, true, true, true, true, false, false] rfl rfl (one_of HT_.out (by kernel_rfl)) (by decide) (fun K hK => ?_)
         refine goes_ Try.func99 (by kernel_rfl) rfl #[.agg #[.bool a0_0], .slice A12 (l1.drop ((ji4) : Int).toNat).length (c1 - (ji4).toNat)] (by rfl) rfl rfl (by (try simp only [List.map_toArray, List.map_cons, List.map_nil]); first | done | (rw [show (l1.drop ((ji4) : Int).toNat).length = (l1.length - (ji4).toNat) from List.length_drop] <;> rfl) | (simp only [hji4]; rfl) | rfl | (simp only [List.length_drop, List.length_take]; rfl)) ?_
         with_reducible refine (impl_pairCoding_number.calls a0_0 _ _ (l1.drop ((ji4) : Int).toNat) t170 _ ?side1 ?side2 A7.out).mono ?_
         (case side1 => repeat (first | exact (Kd.C_below HR169.out HB.out) | (with_reducible refine Kd.C_alloc ?_ _) | (with_reducible refine Kd.C_drewN ?_ _) | (with_reducible refine Kd.C_drew ?_)))
         (case side2 => exact HC169.out)
         rintro e w13 ⟨rfl, hb⟩
         refine ⟨_, rfl, ?_⟩
         have n0_ := aMk (blk_below (g := gb168) (o := .cells #[.bool a0_0] 86 (0, 0)) (by (with_reducible repeat (first | refine bkD ?_ _ | refine blk_drew ?_ | refine bkA ?_ _)); exact BK168.out) hb)
         have n1_ := aMk (below_step (by repeat (first | (with_reducible first | exact HB.out | apply bAl | apply bDn | apply bD1 | refine bSe ?_ GE168.out) | exact HB.out)) hb)
         clear BK168
         clear HB
         have BK168 := n0_
         have HB := n1_
         clear n0_ n1_
         (try clear hb)
         (try clear hb2)
         (try clear hk)
         (try clear hi)
         refine hK.out _ _ ((bCe BK168.out 0).trans rfl) (fun hHeld => ?_)
         clear hK K
         refine norm_ (a' := ?_) ?_ ?_
         rotate_left
         · show Act.put _ (some 22) _ = _
           simp only [Act.put, lSa, lSz, lSs, i64_w, i32_w]
           rfl
         refine one_ (i := 8) (N := some 23) #[true, true, true, true, true, true, true, true, true, false] rfl rfl (one_of HT_.out (by kernel_rfl)) (by decide) (fun K hK => ?_)
         refine goes_ Try.func98 (by kernel_rfl) rfl #[.int .i64 t170] (by rfl) rfl rfl (by (try simp only [List.map_toArray, List.map_cons, List.map_nil]); first | done | rfl | (simp only [List.length_drop, List.length_take]; rfl)) ?_
         with_reducible refine (impl_isHigh.calls t170 true _ A8.out).mono ?_
         rintro e w' ⟨rfl, ⟨nd, rfl⟩⟩
         refine ⟨_, rfl, ?_⟩
         refine hK.out _ _ ((bCe BK168.out 0).trans rfl) (fun hHeld => ?_)
         clear hK K
         refine norm_ (a' := ?_) ?_ ?_
         rotate_left
         · show Act.put _ (some 23) _ = _
           simp only [Act.put, lSa, lSz, lSs, i64_w, i32_w]
           rfl
         refine pure_ (i := 9) (N := some 24) (v := ?_) (a' := ?_) #[true, true, true, true, true, true, true, true, true, true] rfl rfl (any_of HT_.out (by kernel_rfl)) (fun _ _ _ h => h) (Or.inl ⟨by rfl, ?_⟩) ?_ ?_
         rotate_left
         · intro w'
           go_simp
           with_reducible rfl
         rotate_left
         · simp only [Act.put, lSa, lSz, lSs, i64_w, i32_w]
           rfl
         refine done_ (done_of HT_.out (by kernel_rfl)) ?_
         try go_wp2
         go_ret
         exact ⟨by first | rfl | (simp [errW_none, errW_some] <;> rfl) | (simp only [← hji4]; first | rfl | (simp [errW_none, errW_some] <;> rfl)) | (simp [*, errW_none, errW_some] <;> rfl), by repeat (first | (with_reducible first | exact HB.out | apply bAl | apply bDn | apply bD1 | refine bSe ?_ GE168.out) | exact HB.out)⟩
       · replace c9 := Bool.eq_false_iff.mpr c9
         subst c9
         have H1 : (some ((l1.length : Int) % 2)) = some r := by rw [if_neg (show ¬ (false = true) by decide)] at H; exact H
         clear H
         have H := H1
         clear H1
         obtain rfl := Option.some.inj H
         go_enter Try.func95, Try.ntmps95
         try go_wp2_with (first | ((with_reducible refine gate_dst (N := 2) rfl ?_); refine box_event ?hg (N := 2) ?hd (cs := #[.bool a0_0]) (t := 86) ?hr ?_; (case hd => rfl); (case hg => rfl); (case hr => first | (go_simp; done) | (go_simp; rfl)); intro gb168 hg w14 hbox hb; have n0_ := aMk (below_step (by repeat (first | (with_reducible first | exact HB.out | apply bAl | apply bDn | apply bD1) | exact HB.out)) hb); have n1_ := aMk (hbox); have n2_ := aMk ((by rw [hg]; exact (below_size (by repeat (first | (with_reducible first | exact HB.out | apply bAl | apply bDn | apply bD1) | exact HB.out))) : w.heap.size ≤ gb168)); have n3_ := aMk ((by rw [hg]; exact (below_size (by repeat (first | (with_reducible first | exact HB.out | apply bAl | apply bDn | apply bD1) | exact HB.out))) : w.heap.size ≤ gb168)); clear HB; have HB := n0_; have BK168 := n1_; have GW168 := n2_; have GE168 := n3_; clear n0_ n1_ n2_ n3_; clear hb hbox hg))
         have n0_ := aMk (blk_drew BK168.out)
         have n1_ := aMk (bD1 HB.out)
         clear BK168
         clear HB
         have BK168 := n0_
         have HB := n1_
         clear n0_ n1_
         obtain ⟨i016, hi016, _, hsz16, _⟩ := info_parts info5
         obtain ⟨A16, hcut16, hA16, hC16⟩ := print_drop_of (P := Try.prog) (Value.int .u8) 0 22 5 .i64 Try.underlying22 hi016 hsz16 A1 c1 l1 (ji4) (oDt (by first | (with_reducible assumption) | assumption)) (oDt (by first | (with_reducible assumption) | assumption)) HC1.out
         have HR169 := aMk (Kd.C_of_reads (h1 := fun _ => rfl) (hA16 _ (Kd.reads_of_C HR1.out)))
         have HC169 := aMk hC16
         clear hA16 hC16 hi016 hsz16
         refine start_ (n := 10) (S := fun w' => w'.cell? ⟨gb168, 0, none⟩ = some (.bool a0_0)) (ds := []) #[false, false, false, false, false, false, false, false, false, false] (by kernel_rfl) rfl rfl ((bCe BK168.out 0).trans rfl) (fun hHeld => ?_); refine with_tabW impl_pairCoding_keep.tab3 impl_pairCoding_keep.bits3 (fun HT_ HW_ => ?_)
         generalize w14.drew = w15 at BK168 HB HR169 hHeld ⊢
         refine pure_ (i := 0) (N := some 15) (v := ?_) (a' := ?_) #[true, false, false, false, false, false, false, false, false, false] rfl rfl (any_of HT_.out (by kernel_rfl)) (fun _ _ _ h => h) (Or.inl ⟨by rfl, ?_⟩) ?_ ?_
         rotate_left
         · intro w'
           go_simp
           with_reducible rfl
         rotate_left
         · simp only [Act.put, lSa, lSz, lSs, i64_w, i32_w]
           rfl
         refine pure_ (i := 1) (N := some 16) (v := ?_) (a' := ?_) #[true, true, false, false, false, false, false, false, false, false] rfl rfl (any_of HT_.out (by kernel_rfl)) (fun _ _ _ h => h) (Or.inl ⟨by rfl, ?_⟩) ?_ ?_
         rotate_left
         · intro w'
           go_simp
           with_reducible rfl
         rotate_left
         · simp only [Act.put, lSa, lSz, lSs, i64_w, i32_w]
           rfl
         refine pure_ (i := 2) (N := some 17) (v := ?_) (a' := ?_) #[true, true, true, false, false, false, false, false, false, false] rfl rfl (any_of HT_.out (by kernel_rfl)) (fun _ _ _ h => h) (Or.inl ⟨by rfl, ?_⟩) ?_ ?_
         rotate_left
         · intro w'
           go_simp
           with_reducible rfl
         rotate_left
         · simp only [Act.put, lSa, lSz, lSs, i64_w, i32_w]
           rfl
         refine pure_ (i := 4) (N := some 19) (v := ?_) (a' := ?_) #[true, true, true, false, true, false, false, false, false, false] rfl rfl (any_of HT_.out (by kernel_rfl)) (fun _ _ _ h => h) (Or.inl ⟨by rfl, ?_⟩) ?_ ?_
         rotate_left
         · intro w'
           go_simp
           with_reducible rfl
         rotate_left
         · simp only [Act.put, lSa, lSz, lSs, i64_w, i32_w]
           rfl
         refine pure_ (i := 5) (N := some 20) (v := ?_) (a' := ?_) #[true, true, true, false, true, true, false, false, false, false] rfl rfl (any_of HT_.out (by kernel_rfl)) (fun _ _ _ h => h) (Or.inl ⟨by rfl, ?_⟩) ?_ ?_
         rotate_left
         · intro w'
           go_simp
           with_reducible rfl
         rotate_left
         · simp only [Act.put, lSa, lSz, lSs, i64_w, i32_w]
           rfl
         refine pure_ (i := 6) (N := some 21) (v := ?_) (a' := ?_) #[true, true, true, false, true, true, true, false, false, false] rfl rfl (any_of HT_.out (by kernel_rfl)) (fun _ _ _ h => h) (Or.inl ⟨by rfl, ?_⟩) ?_ ?_
         rotate_left
         · intro w'
           go_simp
           with_reducible rfl
         rotate_left
         · simp only [Act.put, lSa, lSz, lSs, i64_w, i32_w]
           rfl
         refine take_ (i := 3) (N := some 18) (v := ?_) (a' := ?_) #[true, true, true, true, true, true, true, false, false, false] rfl rfl (take_ofW HT_.out HW_.out (by kernel_rfl)) (fun _ _ _ h => h) (Or.inl ⟨by rfl, ?_⟩) hHeld ?_ ?_
         rotate_left
         · intro w' s0
           go_simp
           with_reducible rfl
         rotate_left
         · simp only [Act.put, lSa, lSz, lSs, i64_w, i32_w]
           rfl
         refine one_ (i := 7) (N := some 22) #[true, true, true, true, true, true, true, true, false, false] rfl rfl (one_of HT_.out (by kernel_rfl)) (by decide) (fun K hK => ?_)
         refine goes_ Try.func99 (by kernel_rfl) rfl #[.agg #[.bool a0_0], .slice A16 (l1.drop ((ji4) : Int).toNat).length (c1 - (ji4).toNat)] (by rfl) rfl rfl (by (try simp only [List.map_toArray, List.map_cons, List.map_nil]); first | done | (rw [show (l1.drop ((ji4) : Int).toNat).length = (l1.length - (ji4).toNat) from List.length_drop] <;> rfl) | (simp only [hji4]; rfl) | rfl | (simp only [List.length_drop, List.length_take]; rfl)) ?_
         with_reducible refine (impl_pairCoding_number.calls a0_0 _ _ (l1.drop ((ji4) : Int).toNat) t170 _ ?side1 ?side2 A7.out).mono ?_
         (case side1 => repeat (first | exact (Kd.C_below HR169.out HB.out) | (with_reducible refine Kd.C_alloc ?_ _) | (with_reducible refine Kd.C_drewN ?_ _) | (with_reducible refine Kd.C_drew ?_)))
         (case side2 => exact HC169.out)
         rintro e w17 ⟨rfl, hb⟩
         refine ⟨_, rfl, ?_⟩
         have n0_ := aMk (blk_below (g := gb168) (o := .cells #[.bool a0_0] 86 (0, 0)) (by (with_reducible repeat (first | refine bkD ?_ _ | refine blk_drew ?_ | refine bkA ?_ _)); exact BK168.out) hb)
         have n1_ := aMk (below_step (by repeat (first | (with_reducible first | exact HB.out | apply bAl | apply bDn | apply bD1 | refine bSe ?_ GE168.out) | exact HB.out)) hb)
         clear BK168
         clear HB
         have BK168 := n0_
         have HB := n1_
         clear n0_ n1_
         (try clear hb)
         (try clear hb2)
         (try clear hk)
         (try clear hi)
         refine hK.out _ _ ((bCe BK168.out 0).trans rfl) (fun hHeld => ?_)
         clear hK K
         refine norm_ (a' := ?_) ?_ ?_
         rotate_left
         · show Act.put _ (some 22) _ = _
           simp only [Act.put, lSa, lSz, lSs, i64_w, i32_w]
           rfl
         refine one_ (i := 8) (N := some 23) #[true, true, true, true, true, true, true, true, true, false] rfl rfl (one_of HT_.out (by kernel_rfl)) (by decide) (fun K hK => ?_)
         refine goes_ Try.func98 (by kernel_rfl) rfl #[.int .i64 t170] (by rfl) rfl rfl (by (try simp only [List.map_toArray, List.map_cons, List.map_nil]); first | done | rfl | (simp only [List.length_drop, List.length_take]; rfl)) ?_
         with_reducible refine (impl_isHigh.calls t170 false _ A8.out).mono ?_
         rintro e w' ⟨rfl, ⟨nd, rfl⟩⟩
         refine ⟨_, rfl, ?_⟩
         refine hK.out _ _ ((bCe BK168.out 0).trans rfl) (fun hHeld => ?_)
         clear hK K
         refine norm_ (a' := ?_) ?_ ?_
         rotate_left
         · show Act.put _ (some 23) _ = _
           simp only [Act.put, lSa, lSz, lSs, i64_w, i32_w]
           rfl
         refine pure_ (i := 9) (N := some 24) (v := ?_) (a' := ?_) #[true, true, true, true, true, true, true, true, true, true] rfl rfl (any_of HT_.out (by kernel_rfl)) (fun _ _ _ h => h) (Or.inl ⟨by rfl, ?_⟩) ?_ ?_
         rotate_left
         · intro w'
           go_simp
           with_reducible rfl
         rotate_left
         · simp only [Act.put, lSa, lSz, lSs, i64_w, i32_w]
           rfl
         refine done_ (done_of HT_.out (by kernel_rfl)) ?_
         try go_wp2
         go_ret
         exact ⟨by first | rfl | (simp [errW_none, errW_some] <;> rfl) | (simp only [← hji4]; first | rfl | (simp [errW_none, errW_some] <;> rfl)) | (simp [*, errW_none, errW_some] <;> rfl), by repeat (first | (with_reducible first | exact HB.out | apply bAl | apply bDn | apply bD1 | refine bSe ?_ GE168.out) | exact HB.out)⟩
     · rw [if_neg c6] at H
       exact absurd H (by simp)
   · rw [if_neg c5] at H
     exact absurd H (by simp)
 · rw [if_neg c3] at H
   have c3b0 : decide (0 ≤ (wrap64 ((wrap64 ((l1.length : Int) - ((l1.length : Int) % 2))) - 2))) = false := decide_eq_false c3
   clear c3
   obtain rfl := Option.some.inj H
   go_enter Try.func95, Try.ntmps95
   try go_wp2_with (first | ((with_reducible refine gate_dst (N := 2) rfl ?_); refine box_event ?hg (N := 2) ?hd (cs := #[.bool a0_0]) (t := 86) ?hr ?_; (case hd => rfl); (case hg => rfl); (case hr => first | (go_simp; done) | (go_simp; rfl)); intro gb168 hg w18 hbox hb; have n0_ := aMk (below_step (by repeat (first | (with_reducible first | exact HB.out | apply bAl | apply bDn | apply bD1) | exact HB.out)) hb); have n1_ := aMk (hbox); have n2_ := aMk ((by rw [hg]; exact (below_size (by repeat (first | (with_reducible first | exact HB.out | apply bAl | apply bDn | apply bD1) | exact HB.out))) : w.heap.size ≤ gb168)); have n3_ := aMk ((by rw [hg]; exact (below_size (by repeat (first | (with_reducible first | exact HB.out | apply bAl | apply bDn | apply bD1) | exact HB.out))) : w.heap.size ≤ gb168)); clear HB; have HB := n0_; have BK168 := n1_; have GW168 := n2_; have GE168 := n3_; clear n0_ n1_ n2_ n3_; clear hb hbox hg))
   have n0_ := aMk (blk_drew BK168.out)
   have n1_ := aMk (bD1 HB.out)
   clear BK168
   clear HB
   have BK168 := n0_
   have HB := n1_
   clear n0_ n1_
   refine start_ (n := 10) (S := fun w' => True) (ds := []) #[false, false, false, false, false, false, false, false, false, false] (by kernel_rfl) rfl rfl trivial (fun hHeld => ?_); refine with_tabW impl_pairCoding_keep.tab3 impl_pairCoding_keep.bits3 (fun HT_ HW_ => ?_)
   generalize w18.drew = w19 at BK168 HB hHeld ⊢
   refine pure_ (i := 0) (N := some 15) (v := ?_) (a' := ?_) #[true, false, false, false, false, false, false, false, false, false] rfl rfl (any_of HT_.out (by kernel_rfl)) (fun _ _ _ h => h) (Or.inl ⟨by rfl, ?_⟩) ?_ ?_
   rotate_left
   · intro w'
     go_simp
     with_reducible rfl
   rotate_left
   · simp only [Act.put, lSa, lSz, lSs, i64_w, i32_w]
     rfl
   refine pure_ (i := 1) (N := some 16) (v := ?_) (a' := ?_) #[true, true, false, false, false, false, false, false, false, false] rfl rfl (any_of HT_.out (by kernel_rfl)) (fun _ _ _ h => h) (Or.inl ⟨by rfl, ?_⟩) ?_ ?_
   rotate_left
   · intro w'
     go_simp
     with_reducible rfl
   rotate_left
   · simp only [Act.put, lSa, lSz, lSs, i64_w, i32_w]
     rfl
   refine pure_ (i := 2) (N := some 17) (v := ?_) (a' := ?_) #[true, true, true, false, false, false, false, false, false, false] rfl rfl (any_of HT_.out (by kernel_rfl)) (fun _ _ _ h => h) (Or.inl ⟨by rfl, ?_⟩) ?_ ?_
   rotate_left
   · intro w'
     go_simp
     with_reducible rfl
   rotate_left
   · simp only [Act.put, lSa, lSz, lSs, i64_w, i32_w]
     rfl
   refine pure_ (i := 3) (N := some 18) (v := undef) (a' := ?_) #[true, true, true, true, false, false, false, false, false, false] rfl rfl (any_of HT_.out (by kernel_rfl)) (fun _ _ _ h => h) (Or.inr ⟨by rfl, rfl⟩) ?_ ?_
   rotate_left
   · simp only [Act.put, lSa, lSz, lSs, i64_w, i32_w]
     rfl
   refine pure_ (i := 4) (N := some 19) (v := undef) (a' := ?_) #[true, true, true, true, true, false, false, false, false, false] rfl rfl (any_of HT_.out (by kernel_rfl)) (fun _ _ _ h => h) (Or.inr ⟨by rfl, rfl⟩) ?_ ?_
   rotate_left
   · simp only [Act.put, lSa, lSz, lSs, i64_w, i32_w]
     rfl
   refine pure_ (i := 5) (N := some 20) (v := undef) (a' := ?_) #[true, true, true, true, true, true, false, false, false, false] rfl rfl (any_of HT_.out (by kernel_rfl)) (fun _ _ _ h => h) (Or.inr ⟨by rfl, rfl⟩) ?_ ?_
   rotate_left
   · simp only [Act.put, lSa, lSz, lSs, i64_w, i32_w]
     rfl
   refine pure_ (i := 6) (N := some 21) (v := undef) (a' := ?_) #[true, true, true, true, true, true, true, false, false, false] rfl rfl (any_of HT_.out (by kernel_rfl)) (fun _ _ _ h => h) (Or.inr ⟨by rfl, rfl⟩) ?_ ?_
   rotate_left
   · simp only [Act.put, lSa, lSz, lSs, i64_w, i32_w]
     rfl
   refine pure_ (i := 7) (N := some 22) (v := undef) (a' := ?_) #[true, true, true, true, true, true, true, true, false, false] rfl rfl (any_of HT_.out (by kernel_rfl)) (fun _ _ _ h => h) (Or.inr ⟨by rfl, rfl⟩) ?_ ?_
   rotate_left
   · simp only [Act.put, lSa, lSz, lSs, i64_w, i32_w]
     rfl
   refine pure_ (i := 8) (N := some 23) (v := undef) (a' := ?_) #[true, true, true, true, true, true, true, true, true, false] rfl rfl (any_of HT_.out (by kernel_rfl)) (fun _ _ _ h => h) (Or.inr ⟨by rfl, rfl⟩) ?_ ?_
   rotate_left
   · simp only [Act.put, lSa, lSz, lSs, i64_w, i32_w]
     rfl
   refine pure_ (i := 9) (N := some 24) (v := ?_) (a' := ?_) #[true, true, true, true, true, true, true, true, true, true] rfl rfl (any_of HT_.out (by kernel_rfl)) (fun _ _ _ h => h) (Or.inl ⟨by rfl, ?_⟩) ?_ ?_
   rotate_left
   · intro w'
     go_simp
     with_reducible rfl
   rotate_left
   · simp only [Act.put, lSa, lSz, lSs, i64_w, i32_w]
     rfl
   refine done_ (done_of HT_.out (by kernel_rfl)) ?_
   try go_wp2
   go_ret
   exact ⟨by first | rfl | (simp [errW_none, errW_some] <;> rfl) | (simp [*, errW_none, errW_some] <;> rfl), by repeat (first | (with_reducible first | exact HB.out | apply bAl | apply bDn | apply bD1 | refine bSe ?_ GE168.out) | exact HB.out)⟩
end Go.Proofs.Ytmffcjjodkggcaa.MFnExactFeedMore
