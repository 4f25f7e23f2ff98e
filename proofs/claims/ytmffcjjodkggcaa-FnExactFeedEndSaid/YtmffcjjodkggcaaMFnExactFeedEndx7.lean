-- Written by this session's own program (wip/gen/myprint.py).
import Derived.Test.YtmffcjjodkggcaaMFnExactFeedEndx0
import Derived.Test.YtmffcjjodkggcaaMFnExactFeedEndx5
import Derived.Test.YtmffcjjodkggcaaMFnExactFeedEndx6
namespace Go.Proofs.Ytmffcjjodkggcaa.MFnExactFeedEnd
open Go.RowKit Go.Proofs.YtmffcjjodkggcaaW.PrintWords Go.Proofs.YtmffcjjodkggcaaW.PrintLast Go.Proofs.YtmffcjjodkggcaaW.PrintMore
attribute [local go_sem] max2_int min2_int max_two min_two max_three min_three max_four min_four   -- for this text's walks alone
set_option linter.unusedVariables false
set_option linter.unusedSimpArgs false

/-! ### impl_FeedEnd: function 24, by hand -/
/-! ### the feed: its reader, a function over the feed and its coding -/
set_option maxHeartbeats 4000000 in
set_option maxRecDepth 100000 in
theorem clo_calls0b (gF gC : Nat) (A : Option Addr) (c : Nat) (l : List Int) (p : Bool) (r : ByteArray) (w : World) (hF : w.cell? ⟨gF, 1, none⟩ = some (.bool true)) (hC : w.cell? ⟨gC, 0, none⟩ = some (codV 0)) (hr : Kd.C (Kd.int .u8) w A l.length l) (hc : l.length ≤ c)
    (hread : ∀ (A1 : Option Addr) (c1 : Nat) (w1 : World), Kd.C (Kd.int .u8) w1 A1 (l).length (l) → (l).length ≤ c1 → Calls Try.prog 37 #[.agg #[], .slice A1 (l).length c1] w1 fun e w' => e = .returned (.string r) ∧ Below w1.heap.size w1 w') :
    Calls Try.prog 66 #[.slice A l.length c, .pointer (some ⟨gF, 0, none⟩), .pointer (some ⟨gC, 0, none⟩)] w fun e w' => e = .returned (.string r) ∧ Below w.heap.size w w' := by
  have HB := Aside0.mk (Below.refl w.heap.size w)
  have HR := Aside0.mk hr
  have HC := Aside0.mk hc
  have HRD := Aside0.mk hread
  have hu38 := Try.underlying38
  have hC1 : w.cell? ⟨gC, 0, none⟩ = some (.iface 54 (.agg #[])) := hC
  have hnot : ∀ (x : Bool) (w : World), (Op.unary .not (.bool x)).run Try.prog w = .ok (.bool (!x)) w := fun _ _ => rfl
  clear hr hc hC hread
  go_enter Try.func66, Try.ntmps66
  go_wp2_with (go_at_call 37; refine (HRD.out A c w HR.out HC.out).mono ?_; rintro e w' ⟨rfl, hb⟩; have HB3 := Aside0.mk hb; clear hb)
  all_goals (go_ret; exact ⟨rfl, HB3.out⟩)
set_option maxHeartbeats 4000000 in
set_option maxRecDepth 100000 in
theorem clo_calls0n (gF gC : Nat) (A : Option Addr) (c : Nat) (l : List Int) (p : Bool) (r : ByteArray) (w : World) (hF : w.cell? ⟨gF, 1, none⟩ = some (.bool false)) (hC : w.cell? ⟨gC, 0, none⟩ = some (codV 0)) (hr : Kd.C (Kd.int .u8) w A l.length l) (hc : l.length ≤ c) (hp : strings_HasPrefix.f (strOfNums l) (markB 0) = some p)
    (hread : ∀ (A1 : Option Addr) (c1 : Nat) (w1 : World), Kd.C (Kd.int .u8) w1 A1 (cutB 0 p l).length (cutB 0 p l) → (cutB 0 p l).length ≤ c1 → Calls Try.prog 37 #[.agg #[], .slice A1 (cutB 0 p l).length c1] w1 fun e w' => e = .returned (.string r) ∧ Below w1.heap.size w1 w') :
    Calls Try.prog 66 #[.slice A l.length c, .pointer (some ⟨gF, 0, none⟩), .pointer (some ⟨gC, 0, none⟩)] w fun e w' => e = .returned (.string r) ∧ Below w.heap.size w w' := by
  have HB := Aside0.mk (Below.refl w.heap.size w)
  have HR := Aside0.mk hr
  have HC := Aside0.mk hc
  have HP := Aside0.mk hp
  clear hp
  have HRD := Aside0.mk hread
  have hu38 := Try.underlying38
  have hC1 : w.cell? ⟨gC, 0, none⟩ = some (.iface 54 (.agg #[])) := hC
  have hnot : ∀ (x : Bool) (w : World), (Op.unary .not (.bool x)).run Try.prog w = .ok (.bool (!x)) w := fun _ _ => rfl
  clear hr hc hC hread
  go_enter Try.func66, Try.ntmps66
  go_wp2_with (first | (go_at_call 41; refine (bare_calls0 A c l p w HR.out HC.out HP.out (fun h => pre_le (by rw [← h]; exact HP.out))).mono ?_; rintro e w2 ⟨hb, A1, c1, rfl, hr2, hc2⟩; have hC2 := (hb.cell (World.block_lt_of_cell? w _ hC1)).trans hC1; have HB2 := Aside0.mk hb; have HR2 := Aside0.mk (Kd.C_below hr2 hb); have HC2 := Aside0.mk hc2; clear hb hr2 hc2) | (go_at_call 37; refine (HRD.out A1 c1 w2 HR2.out HC2.out).mono ?_; rintro e w' ⟨rfl, hb⟩; have HB3 := Aside0.mk (below_step HB2.out hb); clear hb))
  all_goals (go_ret; exact ⟨rfl, HB3.out⟩)
set_option maxHeartbeats 4000000 in
set_option maxRecDepth 100000 in
theorem clo_calls1b (gF gC : Nat) (A : Option Addr) (c : Nat) (l : List Int) (p : Bool) (r : ByteArray) (w : World) (hF : w.cell? ⟨gF, 1, none⟩ = some (.bool true)) (hC : w.cell? ⟨gC, 0, none⟩ = some (codV 1)) (hr : Kd.C (Kd.int .u8) w A l.length l) (hc : l.length ≤ c)
    (hread : ∀ (A1 : Option Addr) (c1 : Nat) (w1 : World), Kd.C (Kd.int .u8) w1 A1 (l).length (l) → (l).length ≤ c1 → Calls Try.prog 97 #[.agg #[.bool false], .slice A1 (l).length c1] w1 fun e w' => e = .returned (.string r) ∧ Below w1.heap.size w1 w') :
    Calls Try.prog 66 #[.slice A l.length c, .pointer (some ⟨gF, 0, none⟩), .pointer (some ⟨gC, 0, none⟩)] w fun e w' => e = .returned (.string r) ∧ Below w.heap.size w w' := by
  have HB := Aside0.mk (Below.refl w.heap.size w)
  have HR := Aside0.mk hr
  have HC := Aside0.mk hc
  have HRD := Aside0.mk hread
  have hu38 := Try.underlying38
  have hC1 : w.cell? ⟨gC, 0, none⟩ = some (.iface 86 (.agg #[.bool false])) := hC
  have hnot : ∀ (x : Bool) (w : World), (Op.unary .not (.bool x)).run Try.prog w = .ok (.bool (!x)) w := fun _ _ => rfl
  clear hr hc hC hread
  go_enter Try.func66, Try.ntmps66
  go_wp2_with (go_at_call 97; refine (HRD.out A c w HR.out HC.out).mono ?_; rintro e w' ⟨rfl, hb⟩; have HB3 := Aside0.mk hb; clear hb)
  all_goals (go_ret; exact ⟨rfl, HB3.out⟩)
set_option maxHeartbeats 4000000 in
set_option maxRecDepth 100000 in
theorem clo_calls1n (gF gC : Nat) (A : Option Addr) (c : Nat) (l : List Int) (p : Bool) (r : ByteArray) (w : World) (hF : w.cell? ⟨gF, 1, none⟩ = some (.bool false)) (hC : w.cell? ⟨gC, 0, none⟩ = some (codV 1)) (hr : Kd.C (Kd.int .u8) w A l.length l) (hc : l.length ≤ c) (hp : strings_HasPrefix.f (strOfNums l) (markB 1) = some p)
    (hread : ∀ (A1 : Option Addr) (c1 : Nat) (w1 : World), Kd.C (Kd.int .u8) w1 A1 (cutB 1 p l).length (cutB 1 p l) → (cutB 1 p l).length ≤ c1 → Calls Try.prog 97 #[.agg #[.bool false], .slice A1 (cutB 1 p l).length c1] w1 fun e w' => e = .returned (.string r) ∧ Below w1.heap.size w1 w') :
    Calls Try.prog 66 #[.slice A l.length c, .pointer (some ⟨gF, 0, none⟩), .pointer (some ⟨gC, 0, none⟩)] w fun e w' => e = .returned (.string r) ∧ Below w.heap.size w w' := by
  have HB := Aside0.mk (Below.refl w.heap.size w)
  have HR := Aside0.mk hr
  have HC := Aside0.mk hc
  have HP := Aside0.mk hp
  clear hp
  have HRD := Aside0.mk hread
  have hu38 := Try.underlying38
  have hC1 : w.cell? ⟨gC, 0, none⟩ = some (.iface 86 (.agg #[.bool false])) := hC
  have hnot : ∀ (x : Bool) (w : World), (Op.unary .not (.bool x)).run Try.prog w = .ok (.bool (!x)) w := fun _ _ => rfl
  clear hr hc hC hread
  go_enter Try.func66, Try.ntmps66
  go_wp2_with (first | (go_at_call 41; refine (bare_calls1 A c l p w HR.out HC.out HP.out (fun h => pre_le (by rw [← h]; exact HP.out))).mono ?_; rintro e w2 ⟨hb, A1, c1, rfl, hr2, hc2⟩; have hC2 := (hb.cell (World.block_lt_of_cell? w _ hC1)).trans hC1; have HB2 := Aside0.mk hb; have HR2 := Aside0.mk (Kd.C_below hr2 hb); have HC2 := Aside0.mk hc2; clear hb hr2 hc2) | (go_at_call 97; refine (HRD.out A1 c1 w2 HR2.out HC2.out).mono ?_; rintro e w' ⟨rfl, hb⟩; have HB3 := Aside0.mk (below_step HB2.out hb); clear hb))
  all_goals (go_ret; exact ⟨rfl, HB3.out⟩)
set_option maxHeartbeats 4000000 in
set_option maxRecDepth 100000 in
theorem clo_calls2b (gF gC : Nat) (A : Option Addr) (c : Nat) (l : List Int) (p : Bool) (r : ByteArray) (w : World) (hF : w.cell? ⟨gF, 1, none⟩ = some (.bool true)) (hC : w.cell? ⟨gC, 0, none⟩ = some (codV 2)) (hr : Kd.C (Kd.int .u8) w A l.length l) (hc : l.length ≤ c)
    (hread : ∀ (A1 : Option Addr) (c1 : Nat) (w1 : World), Kd.C (Kd.int .u8) w1 A1 (l).length (l) → (l).length ≤ c1 → Calls Try.prog 97 #[.agg #[.bool true], .slice A1 (l).length c1] w1 fun e w' => e = .returned (.string r) ∧ Below w1.heap.size w1 w') :
    Calls Try.prog 66 #[.slice A l.length c, .pointer (some ⟨gF, 0, none⟩), .pointer (some ⟨gC, 0, none⟩)] w fun e w' => e = .returned (.string r) ∧ Below w.heap.size w w' := by
  have HB := Aside0.mk (Below.refl w.heap.size w)
  have HR := Aside0.mk hr
  have HC := Aside0.mk hc
  have HRD := Aside0.mk hread
  have hu38 := Try.underlying38
  have hC1 : w.cell? ⟨gC, 0, none⟩ = some (.iface 86 (.agg #[.bool true])) := hC
  have hnot : ∀ (x : Bool) (w : World), (Op.unary .not (.bool x)).run Try.prog w = .ok (.bool (!x)) w := fun _ _ => rfl
  clear hr hc hC hread
  go_enter Try.func66, Try.ntmps66
  go_wp2_with (go_at_call 97; refine (HRD.out A c w HR.out HC.out).mono ?_; rintro e w' ⟨rfl, hb⟩; have HB3 := Aside0.mk hb; clear hb)
  all_goals (go_ret; exact ⟨rfl, HB3.out⟩)
set_option maxHeartbeats 4000000 in
set_option maxRecDepth 100000 in
theorem clo_calls2n (gF gC : Nat) (A : Option Addr) (c : Nat) (l : List Int) (p : Bool) (r : ByteArray) (w : World) (hF : w.cell? ⟨gF, 1, none⟩ = some (.bool false)) (hC : w.cell? ⟨gC, 0, none⟩ = some (codV 2)) (hr : Kd.C (Kd.int .u8) w A l.length l) (hc : l.length ≤ c) (hp : strings_HasPrefix.f (strOfNums l) (markB 2) = some p)
    (hread : ∀ (A1 : Option Addr) (c1 : Nat) (w1 : World), Kd.C (Kd.int .u8) w1 A1 (cutB 2 p l).length (cutB 2 p l) → (cutB 2 p l).length ≤ c1 → Calls Try.prog 97 #[.agg #[.bool true], .slice A1 (cutB 2 p l).length c1] w1 fun e w' => e = .returned (.string r) ∧ Below w1.heap.size w1 w') :
    Calls Try.prog 66 #[.slice A l.length c, .pointer (some ⟨gF, 0, none⟩), .pointer (some ⟨gC, 0, none⟩)] w fun e w' => e = .returned (.string r) ∧ Below w.heap.size w w' := by
  have HB := Aside0.mk (Below.refl w.heap.size w)
  have HR := Aside0.mk hr
  have HC := Aside0.mk hc
  have HP := Aside0.mk hp
  clear hp
  have HRD := Aside0.mk hread
  have hu38 := Try.underlying38
  have hC1 : w.cell? ⟨gC, 0, none⟩ = some (.iface 86 (.agg #[.bool true])) := hC
  have hnot : ∀ (x : Bool) (w : World), (Op.unary .not (.bool x)).run Try.prog w = .ok (.bool (!x)) w := fun _ _ => rfl
  clear hr hc hC hread
  go_enter Try.func66, Try.ntmps66
  go_wp2_with (first | (go_at_call 41; refine (bare_calls2 A c l p w HR.out HC.out HP.out (fun h => pre_le (by rw [← h]; exact HP.out))).mono ?_; rintro e w2 ⟨hb, A1, c1, rfl, hr2, hc2⟩; have hC2 := (hb.cell (World.block_lt_of_cell? w _ hC1)).trans hC1; have HB2 := Aside0.mk hb; have HR2 := Aside0.mk (Kd.C_below hr2 hb); have HC2 := Aside0.mk hc2; clear hb hr2 hc2) | (go_at_call 97; refine (HRD.out A1 c1 w2 HR2.out HC2.out).mono ?_; rintro e w' ⟨rfl, hb⟩; have HB3 := Aside0.mk (below_step HB2.out hb); clear hb))
  all_goals (go_ret; exact ⟨rfl, HB3.out⟩)
set_option maxHeartbeats 4000000 in
set_option maxRecDepth 100000 in
theorem clo_calls3b (gF gC : Nat) (A : Option Addr) (c : Nat) (l : List Int) (p : Bool) (r : ByteArray) (w : World) (hF : w.cell? ⟨gF, 1, none⟩ = some (.bool true)) (hC : w.cell? ⟨gC, 0, none⟩ = some (codV 3)) (hr : Kd.C (Kd.int .u8) w A l.length l) (hc : l.length ≤ c)
    (hread : ∀ (A1 : Option Addr) (c1 : Nat) (w1 : World), Kd.C (Kd.int .u8) w1 A1 (l).length (l) → (l).length ≤ c1 → Calls Try.prog 103 #[.agg #[], .slice A1 (l).length c1] w1 fun e w' => e = .returned (.string r) ∧ Below w1.heap.size w1 w') :
    Calls Try.prog 66 #[.slice A l.length c, .pointer (some ⟨gF, 0, none⟩), .pointer (some ⟨gC, 0, none⟩)] w fun e w' => e = .returned (.string r) ∧ Below w.heap.size w w' := by
  have HB := Aside0.mk (Below.refl w.heap.size w)
  have HR := Aside0.mk hr
  have HC := Aside0.mk hc
  have HRD := Aside0.mk hread
  have hu38 := Try.underlying38
  have hC1 : w.cell? ⟨gC, 0, none⟩ = some (.iface 87 (.agg #[])) := hC
  have hnot : ∀ (x : Bool) (w : World), (Op.unary .not (.bool x)).run Try.prog w = .ok (.bool (!x)) w := fun _ _ => rfl
  clear hr hc hC hread
  go_enter Try.func66, Try.ntmps66
  go_wp2_with (go_at_call 103; refine (HRD.out A c w HR.out HC.out).mono ?_; rintro e w' ⟨rfl, hb⟩; have HB3 := Aside0.mk hb; clear hb)
  all_goals (go_ret; exact ⟨rfl, HB3.out⟩)
set_option maxHeartbeats 4000000 in
set_option maxRecDepth 100000 in
theorem clo_calls3n (gF gC : Nat) (A : Option Addr) (c : Nat) (l : List Int) (p : Bool) (r : ByteArray) (w : World) (hF : w.cell? ⟨gF, 1, none⟩ = some (.bool false)) (hC : w.cell? ⟨gC, 0, none⟩ = some (codV 3)) (hr : Kd.C (Kd.int .u8) w A l.length l) (hc : l.length ≤ c) (hp : strings_HasPrefix.f (strOfNums l) (markB 3) = some p)
    (hread : ∀ (A1 : Option Addr) (c1 : Nat) (w1 : World), Kd.C (Kd.int .u8) w1 A1 (cutB 3 p l).length (cutB 3 p l) → (cutB 3 p l).length ≤ c1 → Calls Try.prog 103 #[.agg #[], .slice A1 (cutB 3 p l).length c1] w1 fun e w' => e = .returned (.string r) ∧ Below w1.heap.size w1 w') :
    Calls Try.prog 66 #[.slice A l.length c, .pointer (some ⟨gF, 0, none⟩), .pointer (some ⟨gC, 0, none⟩)] w fun e w' => e = .returned (.string r) ∧ Below w.heap.size w w' := by
  have HB := Aside0.mk (Below.refl w.heap.size w)
  have HR := Aside0.mk hr
  have HC := Aside0.mk hc
  have HP := Aside0.mk hp
  clear hp
  have HRD := Aside0.mk hread
  have hu38 := Try.underlying38
  have hC1 : w.cell? ⟨gC, 0, none⟩ = some (.iface 87 (.agg #[])) := hC
  have hnot : ∀ (x : Bool) (w : World), (Op.unary .not (.bool x)).run Try.prog w = .ok (.bool (!x)) w := fun _ _ => rfl
  clear hr hc hC hread
  go_enter Try.func66, Try.ntmps66
  go_wp2_with (first | (go_at_call 41; refine (bare_calls3 A c l p w HR.out HC.out HP.out (fun h => pre_le (by rw [← h]; exact HP.out))).mono ?_; rintro e w2 ⟨hb, A1, c1, rfl, hr2, hc2⟩; have hC2 := (hb.cell (World.block_lt_of_cell? w _ hC1)).trans hC1; have HB2 := Aside0.mk hb; have HR2 := Aside0.mk (Kd.C_below hr2 hb); have HC2 := Aside0.mk hc2; clear hb hr2 hc2) | (go_at_call 103; refine (HRD.out A1 c1 w2 HR2.out HC2.out).mono ?_; rintro e w' ⟨rfl, hb⟩; have HB3 := Aside0.mk (below_step HB2.out hb); clear hb))
  all_goals (go_ret; exact ⟨rfl, HB3.out⟩)
/-! ### the reader -/
def Rdr (e : Nat) (b : Bool) (w : World) (en : Ending) (w' : World) : Prop := ∃ gF gC, en = .returned (.tuple #[codV e, .func (.func 66) #[] #[.pointer (some ⟨gF, 0, none⟩), .pointer (some ⟨gC, 0, none⟩)]]) ∧ w'.cell? ⟨gF, 1, none⟩ = some (.bool b) ∧ w'.cell? ⟨gC, 0, none⟩ = some (codV e) ∧ Below w.heap.size w w'
def RdrNo (w : World) (en : Ending) (w' : World) : Prop := en = .returned (.tuple #[.nilIface, .nilFunc]) ∧ Below w.heap.size w w'
set_option maxHeartbeats 4000000 in
set_option maxRecDepth 100000 in
theorem rdr_calls0 (b : Bool) (A : Option Addr) (c : Nat) (l : List Int) (w : World) (hl : l.length ≤ 3) :
    Calls Try.prog 47 #[.agg #[.int .i64 0, .bool b, .slice A l.length c]] w (Rdr 0 b w) := by
  have hu38 := Try.underlying38
  have hmf : ∀ (fn : Fn) (first cap : Array Value) (w : World), (Instr.makeFunc fn first cap).run Try.prog w = .ok (.func fn first cap) w := fun _ _ _ _ => rfl
  have l1 : decide (3 < (l.length : Int)) = false := decide_eq_false (by omega)
  have l2 : decide (3 < l.length) = false := decide_eq_false (by omega)
  have g1 : (w.alloc (.cells #[.int .i64 0, .bool b, .slice A l.length c] 38)).cell? ⟨w.heap.size, 1, none⟩ = some (.bool b) := by simp [World.cell?_alloc_new]
  have g2 : (w.alloc (.cells #[.int .i64 0, .bool b, .slice A l.length c] 38)).cell? ⟨w.heap.size, 2, none⟩ = some (.slice A l.length c) := by simp [World.cell?_alloc_new]
  have G1 := Aside0.mk g1
  have G2 := Aside0.mk g2
  have HB := Aside0.mk (below_alloc (Below.refl w.heap.size w) (.cells #[.int .i64 0, .bool b, .slice A l.length c] 38))
  clear hl g1 g2
  go_enter Try.func47, Try.ntmps47
  go_wp2_with (go_at_call 40; refine (cod_calls0 _).mono ?_; rintro e w1 ⟨rfl, hb⟩; simp only [codV]; have hc1 := (hb.cell (World.block_lt_of_cell? _ _ G1.out)).trans G1.out; have hc2 := (hb.cell (World.block_lt_of_cell? _ _ G2.out)).trans G2.out; have hz : w.heap.size < w1.heap.size := World.block_lt_of_cell? _ _ hc1; have HB1 := Aside0.mk (below_step HB.out hb); clear hb HB)
  go_ret2
  unfold Rdr
  exact ⟨_, _, rfl, (World.cell?_alloc_past _ _ _ hz).trans hc1, World.cell?_alloc_at _ _ _ _ rfl, below_alloc HB1.out _⟩
set_option maxHeartbeats 4000000 in
set_option maxRecDepth 100000 in
theorem rdr_long0 (b : Bool) (A : Option Addr) (c : Nat) (l : List Int) (w : World) (hl : ¬ l.length ≤ 3) :
    Calls Try.prog 47 #[.agg #[.int .i64 0, .bool b, .slice A l.length c]] w (RdrNo w) := by
  have hu38 := Try.underlying38
  have l1 : decide (3 < (l.length : Int)) = true := decide_eq_true (by omega)
  have l2 : decide (3 < l.length) = true := decide_eq_true (by omega)
  have g1 : (w.alloc (.cells #[.int .i64 0, .bool b, .slice A l.length c] 38)).cell? ⟨w.heap.size, 1, none⟩ = some (.bool b) := by simp [World.cell?_alloc_new]
  have g2 : (w.alloc (.cells #[.int .i64 0, .bool b, .slice A l.length c] 38)).cell? ⟨w.heap.size, 2, none⟩ = some (.slice A l.length c) := by simp [World.cell?_alloc_new]
  have G1 := Aside0.mk g1
  have G2 := Aside0.mk g2
  have HB := Aside0.mk (below_alloc (Below.refl w.heap.size w) (.cells #[.int .i64 0, .bool b, .slice A l.length c] 38))
  clear hl g1 g2
  go_enter Try.func47, Try.ntmps47
  go_wp2_with (go_at_call 40; refine (cod_calls0 _).mono ?_; rintro e w1 ⟨rfl, hb⟩; simp only [codV]; have hc1 := (hb.cell (World.block_lt_of_cell? _ _ G1.out)).trans G1.out; have hc2 := (hb.cell (World.block_lt_of_cell? _ _ G2.out)).trans G2.out; have hz : w.heap.size < w1.heap.size := World.block_lt_of_cell? _ _ hc1; have HB1 := Aside0.mk (below_step HB.out hb); clear hb HB)
  go_ret2
  unfold RdrNo
  exact ⟨rfl, below_alloc HB1.out _⟩
set_option maxHeartbeats 4000000 in
set_option maxRecDepth 100000 in
theorem rdr_calls1 (b : Bool) (A : Option Addr) (c : Nat) (l : List Int) (w : World) (hl : l.length ≤ 3) :
    Calls Try.prog 47 #[.agg #[.int .i64 1, .bool b, .slice A l.length c]] w (Rdr 1 b w) := by
  have hu38 := Try.underlying38
  have hmf : ∀ (fn : Fn) (first cap : Array Value) (w : World), (Instr.makeFunc fn first cap).run Try.prog w = .ok (.func fn first cap) w := fun _ _ _ _ => rfl
  have l1 : decide (3 < (l.length : Int)) = false := decide_eq_false (by omega)
  have l2 : decide (3 < l.length) = false := decide_eq_false (by omega)
  have g1 : (w.alloc (.cells #[.int .i64 1, .bool b, .slice A l.length c] 38)).cell? ⟨w.heap.size, 1, none⟩ = some (.bool b) := by simp [World.cell?_alloc_new]
  have g2 : (w.alloc (.cells #[.int .i64 1, .bool b, .slice A l.length c] 38)).cell? ⟨w.heap.size, 2, none⟩ = some (.slice A l.length c) := by simp [World.cell?_alloc_new]
  have G1 := Aside0.mk g1
  have G2 := Aside0.mk g2
  have HB := Aside0.mk (below_alloc (Below.refl w.heap.size w) (.cells #[.int .i64 1, .bool b, .slice A l.length c] 38))
  clear hl g1 g2
  go_enter Try.func47, Try.ntmps47
  go_wp2_with (go_at_call 40; refine (cod_calls1 _).mono ?_; rintro e w1 ⟨rfl, hb⟩; simp only [codV]; have hc1 := (hb.cell (World.block_lt_of_cell? _ _ G1.out)).trans G1.out; have hc2 := (hb.cell (World.block_lt_of_cell? _ _ G2.out)).trans G2.out; have hz : w.heap.size < w1.heap.size := World.block_lt_of_cell? _ _ hc1; have HB1 := Aside0.mk (below_step HB.out hb); clear hb HB)
  go_ret2
  unfold Rdr
  exact ⟨_, _, rfl, (World.cell?_alloc_past _ _ _ hz).trans hc1, World.cell?_alloc_at _ _ _ _ rfl, below_alloc HB1.out _⟩
set_option maxHeartbeats 4000000 in
set_option maxRecDepth 100000 in
theorem rdr_long1 (b : Bool) (A : Option Addr) (c : Nat) (l : List Int) (w : World) (hl : ¬ l.length ≤ 3) :
    Calls Try.prog 47 #[.agg #[.int .i64 1, .bool b, .slice A l.length c]] w (RdrNo w) := by
  have hu38 := Try.underlying38
  have l1 : decide (3 < (l.length : Int)) = true := decide_eq_true (by omega)
  have l2 : decide (3 < l.length) = true := decide_eq_true (by omega)
  have g1 : (w.alloc (.cells #[.int .i64 1, .bool b, .slice A l.length c] 38)).cell? ⟨w.heap.size, 1, none⟩ = some (.bool b) := by simp [World.cell?_alloc_new]
  have g2 : (w.alloc (.cells #[.int .i64 1, .bool b, .slice A l.length c] 38)).cell? ⟨w.heap.size, 2, none⟩ = some (.slice A l.length c) := by simp [World.cell?_alloc_new]
  have G1 := Aside0.mk g1
  have G2 := Aside0.mk g2
  have HB := Aside0.mk (below_alloc (Below.refl w.heap.size w) (.cells #[.int .i64 1, .bool b, .slice A l.length c] 38))
  clear hl g1 g2
  go_enter Try.func47, Try.ntmps47
  go_wp2_with (go_at_call 40; refine (cod_calls1 _).mono ?_; rintro e w1 ⟨rfl, hb⟩; simp only [codV]; have hc1 := (hb.cell (World.block_lt_of_cell? _ _ G1.out)).trans G1.out; have hc2 := (hb.cell (World.block_lt_of_cell? _ _ G2.out)).trans G2.out; have hz : w.heap.size < w1.heap.size := World.block_lt_of_cell? _ _ hc1; have HB1 := Aside0.mk (below_step HB.out hb); clear hb HB)
  go_ret2
  unfold RdrNo
  exact ⟨rfl, below_alloc HB1.out _⟩
set_option maxHeartbeats 4000000 in
set_option maxRecDepth 100000 in
theorem rdr_calls2 (b : Bool) (A : Option Addr) (c : Nat) (l : List Int) (w : World) (hl : l.length ≤ 3) :
    Calls Try.prog 47 #[.agg #[.int .i64 2, .bool b, .slice A l.length c]] w (Rdr 2 b w) := by
  have hu38 := Try.underlying38
  have hmf : ∀ (fn : Fn) (first cap : Array Value) (w : World), (Instr.makeFunc fn first cap).run Try.prog w = .ok (.func fn first cap) w := fun _ _ _ _ => rfl
  have l1 : decide (3 < (l.length : Int)) = false := decide_eq_false (by omega)
  have l2 : decide (3 < l.length) = false := decide_eq_false (by omega)
  have g1 : (w.alloc (.cells #[.int .i64 2, .bool b, .slice A l.length c] 38)).cell? ⟨w.heap.size, 1, none⟩ = some (.bool b) := by simp [World.cell?_alloc_new]
  have g2 : (w.alloc (.cells #[.int .i64 2, .bool b, .slice A l.length c] 38)).cell? ⟨w.heap.size, 2, none⟩ = some (.slice A l.length c) := by simp [World.cell?_alloc_new]
  have G1 := Aside0.mk g1
  have G2 := Aside0.mk g2
  have HB := Aside0.mk (below_alloc (Below.refl w.heap.size w) (.cells #[.int .i64 2, .bool b, .slice A l.length c] 38))
  clear hl g1 g2
  go_enter Try.func47, Try.ntmps47
  go_wp2_with (go_at_call 40; refine (cod_calls2 _).mono ?_; rintro e w1 ⟨rfl, hb⟩; simp only [codV]; have hc1 := (hb.cell (World.block_lt_of_cell? _ _ G1.out)).trans G1.out; have hc2 := (hb.cell (World.block_lt_of_cell? _ _ G2.out)).trans G2.out; have hz : w.heap.size < w1.heap.size := World.block_lt_of_cell? _ _ hc1; have HB1 := Aside0.mk (below_step HB.out hb); clear hb HB)
  go_ret2
  unfold Rdr
  exact ⟨_, _, rfl, (World.cell?_alloc_past _ _ _ hz).trans hc1, World.cell?_alloc_at _ _ _ _ rfl, below_alloc HB1.out _⟩
set_option maxHeartbeats 4000000 in
set_option maxRecDepth 100000 in
theorem rdr_long2 (b : Bool) (A : Option Addr) (c : Nat) (l : List Int) (w : World) (hl : ¬ l.length ≤ 3) :
    Calls Try.prog 47 #[.agg #[.int .i64 2, .bool b, .slice A l.length c]] w (RdrNo w) := by
  have hu38 := Try.underlying38
  have l1 : decide (3 < (l.length : Int)) = true := decide_eq_true (by omega)
  have l2 : decide (3 < l.length) = true := decide_eq_true (by omega)
  have g1 : (w.alloc (.cells #[.int .i64 2, .bool b, .slice A l.length c] 38)).cell? ⟨w.heap.size, 1, none⟩ = some (.bool b) := by simp [World.cell?_alloc_new]
  have g2 : (w.alloc (.cells #[.int .i64 2, .bool b, .slice A l.length c] 38)).cell? ⟨w.heap.size, 2, none⟩ = some (.slice A l.length c) := by simp [World.cell?_alloc_new]
  have G1 := Aside0.mk g1
  have G2 := Aside0.mk g2
  have HB := Aside0.mk (below_alloc (Below.refl w.heap.size w) (.cells #[.int .i64 2, .bool b, .slice A l.length c] 38))
  clear hl g1 g2
  go_enter Try.func47, Try.ntmps47
  go_wp2_with (go_at_call 40; refine (cod_calls2 _).mono ?_; rintro e w1 ⟨rfl, hb⟩; simp only [codV]; have hc1 := (hb.cell (World.block_lt_of_cell? _ _ G1.out)).trans G1.out; have hc2 := (hb.cell (World.block_lt_of_cell? _ _ G2.out)).trans G2.out; have hz : w.heap.size < w1.heap.size := World.block_lt_of_cell? _ _ hc1; have HB1 := Aside0.mk (below_step HB.out hb); clear hb HB)
  go_ret2
  unfold RdrNo
  exact ⟨rfl, below_alloc HB1.out _⟩
set_option maxHeartbeats 4000000 in
set_option maxRecDepth 100000 in
theorem rdr_calls3 (b : Bool) (A : Option Addr) (c : Nat) (l : List Int) (w : World) (hl : l.length ≤ 3) :
    Calls Try.prog 47 #[.agg #[.int .i64 3, .bool b, .slice A l.length c]] w (Rdr 3 b w) := by
  have hu38 := Try.underlying38
  have hmf : ∀ (fn : Fn) (first cap : Array Value) (w : World), (Instr.makeFunc fn first cap).run Try.prog w = .ok (.func fn first cap) w := fun _ _ _ _ => rfl
  have l1 : decide (3 < (l.length : Int)) = false := decide_eq_false (by omega)
  have l2 : decide (3 < l.length) = false := decide_eq_false (by omega)
  have g1 : (w.alloc (.cells #[.int .i64 3, .bool b, .slice A l.length c] 38)).cell? ⟨w.heap.size, 1, none⟩ = some (.bool b) := by simp [World.cell?_alloc_new]
  have g2 : (w.alloc (.cells #[.int .i64 3, .bool b, .slice A l.length c] 38)).cell? ⟨w.heap.size, 2, none⟩ = some (.slice A l.length c) := by simp [World.cell?_alloc_new]
  have G1 := Aside0.mk g1
  have G2 := Aside0.mk g2
  have HB := Aside0.mk (below_alloc (Below.refl w.heap.size w) (.cells #[.int .i64 3, .bool b, .slice A l.length c] 38))
  clear hl g1 g2
  go_enter Try.func47, Try.ntmps47
  go_wp2_with (go_at_call 40; refine (cod_calls3 _).mono ?_; rintro e w1 ⟨rfl, hb⟩; simp only [codV]; have hc1 := (hb.cell (World.block_lt_of_cell? _ _ G1.out)).trans G1.out; have hc2 := (hb.cell (World.block_lt_of_cell? _ _ G2.out)).trans G2.out; have hz : w.heap.size < w1.heap.size := World.block_lt_of_cell? _ _ hc1; have HB1 := Aside0.mk (below_step HB.out hb); clear hb HB)
  go_ret2
  unfold Rdr
  exact ⟨_, _, rfl, (World.cell?_alloc_past _ _ _ hz).trans hc1, World.cell?_alloc_at _ _ _ _ rfl, below_alloc HB1.out _⟩
set_option maxHeartbeats 4000000 in
set_option maxRecDepth 100000 in
theorem rdr_long3 (b : Bool) (A : Option Addr) (c : Nat) (l : List Int) (w : World) (hl : ¬ l.length ≤ 3) :
    Calls Try.prog 47 #[.agg #[.int .i64 3, .bool b, .slice A l.length c]] w (RdrNo w) := by
  have hu38 := Try.underlying38
  have l1 : decide (3 < (l.length : Int)) = true := decide_eq_true (by omega)
  have l2 : decide (3 < l.length) = true := decide_eq_true (by omega)
  have g1 : (w.alloc (.cells #[.int .i64 3, .bool b, .slice A l.length c] 38)).cell? ⟨w.heap.size, 1, none⟩ = some (.bool b) := by simp [World.cell?_alloc_new]
  have g2 : (w.alloc (.cells #[.int .i64 3, .bool b, .slice A l.length c] 38)).cell? ⟨w.heap.size, 2, none⟩ = some (.slice A l.length c) := by simp [World.cell?_alloc_new]
  have G1 := Aside0.mk g1
  have G2 := Aside0.mk g2
  have HB := Aside0.mk (below_alloc (Below.refl w.heap.size w) (.cells #[.int .i64 3, .bool b, .slice A l.length c] 38))
  clear hl g1 g2
  go_enter Try.func47, Try.ntmps47
  go_wp2_with (go_at_call 40; refine (cod_calls3 _).mono ?_; rintro e w1 ⟨rfl, hb⟩; simp only [codV]; have hc1 := (hb.cell (World.block_lt_of_cell? _ _ G1.out)).trans G1.out; have hc2 := (hb.cell (World.block_lt_of_cell? _ _ G2.out)).trans G2.out; have hz : w.heap.size < w1.heap.size := World.block_lt_of_cell? _ _ hc1; have HB1 := Aside0.mk (below_step HB.out hb); clear hb HB)
  go_ret2
  unfold RdrNo
  exact ⟨rfl, below_alloc HB1.out _⟩
set_option maxHeartbeats 4000000 in
set_option maxRecDepth 100000 in
theorem rdr_none (a : Int) (b : Bool) (A : Option Addr) (c : Nat) (l : List Int) (w : World) (h0 : a ≠ 0) (h1 : a ≠ 1) (h2 : a ≠ 2) (h3 : a ≠ 3) :
    Calls Try.prog 47 #[.agg #[.int .i64 a, .bool b, .slice A l.length c]] w (RdrNo w) := by
  have hu38 := Try.underlying38
  have HN := Aside0.mk (cod_callsN a (w.alloc (.cells #[.int .i64 a, .bool b, .slice A l.length c] 38)) h0 h1 h2 h3)
  have hl : True := trivial
  clear h0 h1 h2 h3
  have g1 : (w.alloc (.cells #[.int .i64 a, .bool b, .slice A l.length c] 38)).cell? ⟨w.heap.size, 1, none⟩ = some (.bool b) := by simp [World.cell?_alloc_new]
  have g2 : (w.alloc (.cells #[.int .i64 a, .bool b, .slice A l.length c] 38)).cell? ⟨w.heap.size, 2, none⟩ = some (.slice A l.length c) := by simp [World.cell?_alloc_new]
  have G1 := Aside0.mk g1
  have G2 := Aside0.mk g2
  have HB := Aside0.mk (below_alloc (Below.refl w.heap.size w) (.cells #[.int .i64 a, .bool b, .slice A l.length c] 38))
  clear hl g1 g2
  go_enter Try.func47, Try.ntmps47
  go_wp2_with (go_at_call 40; refine (HN.out).mono ?_; rintro e w1 ⟨rfl, hb⟩; simp only [codV]; have hc1 := (hb.cell (World.block_lt_of_cell? _ _ G1.out)).trans G1.out; have hc2 := (hb.cell (World.block_lt_of_cell? _ _ G2.out)).trans G2.out; have hz : w.heap.size < w1.heap.size := World.block_lt_of_cell? _ _ hc1; have HB1 := Aside0.mk (below_step HB.out hb); clear hb HB)
  go_ret2
  unfold RdrNo
  exact ⟨rfl, below_alloc HB1.out _⟩
/-! ### FeedEnd -/
set_option maxHeartbeats 4000000 in
set_option maxRecDepth 100000 in
theorem end_calls0 (b : Bool) (A : Option Addr) (c : Nat) (l : List Int) (r : ByteArray) (w : World) (hl : l.length ≤ 3)
    (hclo : ∀ (gF gC : Nat) (w1 : World), Below w.heap.size w w1 → w1.cell? ⟨gF, 1, none⟩ = some (.bool b) → w1.cell? ⟨gC, 0, none⟩ = some (codV 0) → Calls Try.prog 66 #[.slice A l.length c, .pointer (some ⟨gF, 0, none⟩), .pointer (some ⟨gC, 0, none⟩)] w1 fun e w' => e = .returned (.string r) ∧ Below w1.heap.size w1 w') :
    Calls Try.prog 24 #[.agg #[.int .i64 0, .bool b, .slice A l.length c]] w fun e w' => e = .returned (.string r) ∧ Below w.heap.size w w' := by
  have hu38 := Try.underlying38
  have HB := Aside0.mk (below_alloc (Below.refl w.heap.size w) (.cells #[.int .i64 0, .bool b, .slice A l.length c] 38))
  have HL := Aside0.mk hl
  have HCL := Aside0.mk hclo
  have g2 : (w.alloc (.cells #[.int .i64 0, .bool b, .slice A l.length c] 38)).cell? ⟨w.heap.size, 2, none⟩ = some (.slice A l.length c) := by simp [World.cell?_alloc_new]
  have G2 := Aside0.mk g2
  clear hl hclo g2
  go_enter Try.func24, Try.ntmps24
  go_wp2_with (first | (go_at_call 47; refine (rdr_calls0 b A c l _ HL.out).mono ?_; rintro e w1 ⟨gF, gC, rfl, hf, hc, hb⟩; simp only [codV]; have HF := Aside0.mk hf; have HC := Aside0.mk hc; have hd2 := (hb.cell (World.block_lt_of_cell? _ _ G2.out)).trans G2.out; have HB1 := Aside0.mk (below_step HB.out hb); clear hb hf hc) | (go_at_call 66; refine (HCL.out gF gC _ HB1.out HF.out HC.out).mono ?_; rintro e w2 ⟨rfl, hb⟩; have HB2 := Aside0.mk (below_step HB1.out hb); clear hb))
  go_ret
  exact ⟨rfl, HB2.out⟩
set_option maxHeartbeats 4000000 in
set_option maxRecDepth 100000 in
theorem end_calls1 (b : Bool) (A : Option Addr) (c : Nat) (l : List Int) (r : ByteArray) (w : World) (hl : l.length ≤ 3)
    (hclo : ∀ (gF gC : Nat) (w1 : World), Below w.heap.size w w1 → w1.cell? ⟨gF, 1, none⟩ = some (.bool b) → w1.cell? ⟨gC, 0, none⟩ = some (codV 1) → Calls Try.prog 66 #[.slice A l.length c, .pointer (some ⟨gF, 0, none⟩), .pointer (some ⟨gC, 0, none⟩)] w1 fun e w' => e = .returned (.string r) ∧ Below w1.heap.size w1 w') :
    Calls Try.prog 24 #[.agg #[.int .i64 1, .bool b, .slice A l.length c]] w fun e w' => e = .returned (.string r) ∧ Below w.heap.size w w' := by
  have hu38 := Try.underlying38
  have HB := Aside0.mk (below_alloc (Below.refl w.heap.size w) (.cells #[.int .i64 1, .bool b, .slice A l.length c] 38))
  have HL := Aside0.mk hl
  have HCL := Aside0.mk hclo
  have g2 : (w.alloc (.cells #[.int .i64 1, .bool b, .slice A l.length c] 38)).cell? ⟨w.heap.size, 2, none⟩ = some (.slice A l.length c) := by simp [World.cell?_alloc_new]
  have G2 := Aside0.mk g2
  clear hl hclo g2
  go_enter Try.func24, Try.ntmps24
  go_wp2_with (first | (go_at_call 47; refine (rdr_calls1 b A c l _ HL.out).mono ?_; rintro e w1 ⟨gF, gC, rfl, hf, hc, hb⟩; simp only [codV]; have HF := Aside0.mk hf; have HC := Aside0.mk hc; have hd2 := (hb.cell (World.block_lt_of_cell? _ _ G2.out)).trans G2.out; have HB1 := Aside0.mk (below_step HB.out hb); clear hb hf hc) | (go_at_call 66; refine (HCL.out gF gC _ HB1.out HF.out HC.out).mono ?_; rintro e w2 ⟨rfl, hb⟩; have HB2 := Aside0.mk (below_step HB1.out hb); clear hb))
  go_ret
  exact ⟨rfl, HB2.out⟩
set_option maxHeartbeats 4000000 in
set_option maxRecDepth 100000 in
theorem end_calls2 (b : Bool) (A : Option Addr) (c : Nat) (l : List Int) (r : ByteArray) (w : World) (hl : l.length ≤ 3)
    (hclo : ∀ (gF gC : Nat) (w1 : World), Below w.heap.size w w1 → w1.cell? ⟨gF, 1, none⟩ = some (.bool b) → w1.cell? ⟨gC, 0, none⟩ = some (codV 2) → Calls Try.prog 66 #[.slice A l.length c, .pointer (some ⟨gF, 0, none⟩), .pointer (some ⟨gC, 0, none⟩)] w1 fun e w' => e = .returned (.string r) ∧ Below w1.heap.size w1 w') :
    Calls Try.prog 24 #[.agg #[.int .i64 2, .bool b, .slice A l.length c]] w fun e w' => e = .returned (.string r) ∧ Below w.heap.size w w' := by
  have hu38 := Try.underlying38
  have HB := Aside0.mk (below_alloc (Below.refl w.heap.size w) (.cells #[.int .i64 2, .bool b, .slice A l.length c] 38))
  have HL := Aside0.mk hl
  have HCL := Aside0.mk hclo
  have g2 : (w.alloc (.cells #[.int .i64 2, .bool b, .slice A l.length c] 38)).cell? ⟨w.heap.size, 2, none⟩ = some (.slice A l.length c) := by simp [World.cell?_alloc_new]
  have G2 := Aside0.mk g2
  clear hl hclo g2
  go_enter Try.func24, Try.ntmps24
  go_wp2_with (first | (go_at_call 47; refine (rdr_calls2 b A c l _ HL.out).mono ?_; rintro e w1 ⟨gF, gC, rfl, hf, hc, hb⟩; simp only [codV]; have HF := Aside0.mk hf; have HC := Aside0.mk hc; have hd2 := (hb.cell (World.block_lt_of_cell? _ _ G2.out)).trans G2.out; have HB1 := Aside0.mk (below_step HB.out hb); clear hb hf hc) | (go_at_call 66; refine (HCL.out gF gC _ HB1.out HF.out HC.out).mono ?_; rintro e w2 ⟨rfl, hb⟩; have HB2 := Aside0.mk (below_step HB1.out hb); clear hb))
  go_ret
  exact ⟨rfl, HB2.out⟩
set_option maxHeartbeats 4000000 in
set_option maxRecDepth 100000 in
theorem end_calls3 (b : Bool) (A : Option Addr) (c : Nat) (l : List Int) (r : ByteArray) (w : World) (hl : l.length ≤ 3)
    (hclo : ∀ (gF gC : Nat) (w1 : World), Below w.heap.size w w1 → w1.cell? ⟨gF, 1, none⟩ = some (.bool b) → w1.cell? ⟨gC, 0, none⟩ = some (codV 3) → Calls Try.prog 66 #[.slice A l.length c, .pointer (some ⟨gF, 0, none⟩), .pointer (some ⟨gC, 0, none⟩)] w1 fun e w' => e = .returned (.string r) ∧ Below w1.heap.size w1 w') :
    Calls Try.prog 24 #[.agg #[.int .i64 3, .bool b, .slice A l.length c]] w fun e w' => e = .returned (.string r) ∧ Below w.heap.size w w' := by
  have hu38 := Try.underlying38
  have HB := Aside0.mk (below_alloc (Below.refl w.heap.size w) (.cells #[.int .i64 3, .bool b, .slice A l.length c] 38))
  have HL := Aside0.mk hl
  have HCL := Aside0.mk hclo
  have g2 : (w.alloc (.cells #[.int .i64 3, .bool b, .slice A l.length c] 38)).cell? ⟨w.heap.size, 2, none⟩ = some (.slice A l.length c) := by simp [World.cell?_alloc_new]
  have G2 := Aside0.mk g2
  clear hl hclo g2
  go_enter Try.func24, Try.ntmps24
  go_wp2_with (first | (go_at_call 47; refine (rdr_calls3 b A c l _ HL.out).mono ?_; rintro e w1 ⟨gF, gC, rfl, hf, hc, hb⟩; simp only [codV]; have HF := Aside0.mk hf; have HC := Aside0.mk hc; have hd2 := (hb.cell (World.block_lt_of_cell? _ _ G2.out)).trans G2.out; have HB1 := Aside0.mk (below_step HB.out hb); clear hb hf hc) | (go_at_call 66; refine (HCL.out gF gC _ HB1.out HF.out HC.out).mono ?_; rintro e w2 ⟨rfl, hb⟩; have HB2 := Aside0.mk (below_step HB1.out hb); clear hb))
  go_ret
  exact ⟨rfl, HB2.out⟩
set_option maxHeartbeats 4000000 in
set_option maxRecDepth 100000 in
theorem end_long0 (b : Bool) (A : Option Addr) (c : Nat) (l : List Int) (w : World) (hl : ¬ l.length ≤ 3) :
    Calls Try.prog 24 #[.agg #[.int .i64 0, .bool b, .slice A l.length c]] w fun e w' => e = .returned (.string ⟨#[]⟩) ∧ Below w.heap.size w w' := by
  have hu38 := Try.underlying38
  have HB := Aside0.mk (below_alloc (Below.refl w.heap.size w) (.cells #[.int .i64 0, .bool b, .slice A l.length c] 38))
  have HL := Aside0.mk hl
  clear hl
  go_enter Try.func24, Try.ntmps24
  go_wp2_with (go_at_call 47; refine (rdr_long0 b A c l _ HL.out).mono ?_; rintro e w1 ⟨rfl, hb⟩; have HB1 := Aside0.mk (below_step HB.out hb); clear hb)
  go_ret
  exact ⟨rfl, HB1.out⟩
set_option maxHeartbeats 4000000 in
set_option maxRecDepth 100000 in
theorem end_long1 (b : Bool) (A : Option Addr) (c : Nat) (l : List Int) (w : World) (hl : ¬ l.length ≤ 3) :
    Calls Try.prog 24 #[.agg #[.int .i64 1, .bool b, .slice A l.length c]] w fun e w' => e = .returned (.string ⟨#[]⟩) ∧ Below w.heap.size w w' := by
  have hu38 := Try.underlying38
  have HB := Aside0.mk (below_alloc (Below.refl w.heap.size w) (.cells #[.int .i64 1, .bool b, .slice A l.length c] 38))
  have HL := Aside0.mk hl
  clear hl
  go_enter Try.func24, Try.ntmps24
  go_wp2_with (go_at_call 47; refine (rdr_long1 b A c l _ HL.out).mono ?_; rintro e w1 ⟨rfl, hb⟩; have HB1 := Aside0.mk (below_step HB.out hb); clear hb)
  go_ret
  exact ⟨rfl, HB1.out⟩
set_option maxHeartbeats 4000000 in
set_option maxRecDepth 100000 in
theorem end_long2 (b : Bool) (A : Option Addr) (c : Nat) (l : List Int) (w : World) (hl : ¬ l.length ≤ 3) :
    Calls Try.prog 24 #[.agg #[.int .i64 2, .bool b, .slice A l.length c]] w fun e w' => e = .returned (.string ⟨#[]⟩) ∧ Below w.heap.size w w' := by
  have hu38 := Try.underlying38
  have HB := Aside0.mk (below_alloc (Below.refl w.heap.size w) (.cells #[.int .i64 2, .bool b, .slice A l.length c] 38))
  have HL := Aside0.mk hl
  clear hl
  go_enter Try.func24, Try.ntmps24
  go_wp2_with (go_at_call 47; refine (rdr_long2 b A c l _ HL.out).mono ?_; rintro e w1 ⟨rfl, hb⟩; have HB1 := Aside0.mk (below_step HB.out hb); clear hb)
  go_ret
  exact ⟨rfl, HB1.out⟩
set_option maxHeartbeats 4000000 in
set_option maxRecDepth 100000 in
theorem end_long3 (b : Bool) (A : Option Addr) (c : Nat) (l : List Int) (w : World) (hl : ¬ l.length ≤ 3) :
    Calls Try.prog 24 #[.agg #[.int .i64 3, .bool b, .slice A l.length c]] w fun e w' => e = .returned (.string ⟨#[]⟩) ∧ Below w.heap.size w w' := by
  have hu38 := Try.underlying38
  have HB := Aside0.mk (below_alloc (Below.refl w.heap.size w) (.cells #[.int .i64 3, .bool b, .slice A l.length c] 38))
  have HL := Aside0.mk hl
  clear hl
  go_enter Try.func24, Try.ntmps24
  go_wp2_with (go_at_call 47; refine (rdr_long3 b A c l _ HL.out).mono ?_; rintro e w1 ⟨rfl, hb⟩; have HB1 := Aside0.mk (below_step HB.out hb); clear hb)
  go_ret
  exact ⟨rfl, HB1.out⟩
set_option maxHeartbeats 4000000 in
set_option maxRecDepth 100000 in
theorem end_none (a : Int) (b : Bool) (A : Option Addr) (c : Nat) (l : List Int) (w : World) (h0 : a ≠ 0) (h1 : a ≠ 1) (h2 : a ≠ 2) (h3 : a ≠ 3) :
    Calls Try.prog 24 #[.agg #[.int .i64 a, .bool b, .slice A l.length c]] w fun e w' => e = .returned (.string ⟨#[]⟩) ∧ Below w.heap.size w w' := by
  have hu38 := Try.underlying38
  have HB := Aside0.mk (below_alloc (Below.refl w.heap.size w) (.cells #[.int .i64 a, .bool b, .slice A l.length c] 38))
  have HN := Aside0.mk (rdr_none a b A c l (w.alloc (.cells #[.int .i64 a, .bool b, .slice A l.length c] 38)) h0 h1 h2 h3)
  clear h0 h1 h2 h3
  go_enter Try.func24, Try.ntmps24
  go_wp2_with (go_at_call 47; refine (HN.out).mono ?_; rintro e w1 ⟨rfl, hb⟩; have HB1 := Aside0.mk (below_step HB.out hb); clear hb)
  go_ret
  exact ⟨rfl, HB1.out⟩
def rdF (k e : Nat) (b : Bool) (l : List Int) : Option ByteArray := if b = true then readK k e l else (strings_HasPrefix.f (strOfNums l) (markB e)).bind fun p => readK k e (cutB e p l)
theorem rdF_mono (k e : Nat) (b : Bool) (l : List Int) : LeO (rdF k e b l) (rdF (k + 1) e b l) := by
  unfold rdF
  exact LeO.ite (readK_mono k e l) (LeO.bind (LeO.refl _) fun p => readK_mono k e _)
theorem readK_calls0 (k : Nat) (l : List Int) (r : ByteArray) (hall : ∀ x ∈ l, 0 ≤ x ∧ x ≤ 255) (hl : l.length ≤ 1099511627776) (h : readK k 0 l = some r) (A1 : Option Addr) (c1 : Nat) (w1 : World) (h1 : Kd.C (Kd.int .u8) w1 A1 l.length l) (h2 : l.length ≤ c1) :
    Calls Try.prog 37 #[.agg #[], .slice A1 l.length c1] w1 fun e w' => e = .returned (.string r) ∧ Below w1.heap.size w1 w' := by
  obtain rfl := Option.some.inj h
  exact read_calls A1 c1 _ .nilIface w1 h1 h2 hl hall
theorem readK_calls1 (k : Nat) (l : List Int) (r : ByteArray) (h : readK k 1 l = some r) (A1 : Option Addr) (c1 : Nat) (w1 : World) (h1 : Kd.C (Kd.int .u8) w1 A1 l.length l) (h2 : l.length ≤ c1) :
    Calls Try.prog 97 #[.agg #[.bool false], .slice A1 l.length c1] w1 fun e w' => e = .returned (.string r) ∧ Below w1.heap.size w1 w' :=
  impl_pairCoding_read.calls k false (fun k => k < w1.heap.size) A1 c1 _ r w1 (u8_V h1 h2) h
theorem readK_calls2 (k : Nat) (l : List Int) (r : ByteArray) (h : readK k 2 l = some r) (A1 : Option Addr) (c1 : Nat) (w1 : World) (h1 : Kd.C (Kd.int .u8) w1 A1 l.length l) (h2 : l.length ≤ c1) :
    Calls Try.prog 97 #[.agg #[.bool true], .slice A1 l.length c1] w1 fun e w' => e = .returned (.string r) ∧ Below w1.heap.size w1 w' :=
  impl_pairCoding_read.calls k true (fun k => k < w1.heap.size) A1 c1 _ r w1 (u8_V h1 h2) h
theorem readK_calls3 (k : Nat) (l : List Int) (r : ByteArray) (hall : ∀ x ∈ l, 0 ≤ x ∧ x ≤ 255) (hl : l.length ≤ 1099511627776) (h : readK k 3 l = some r) (A1 : Option Addr) (c1 : Nat) (w1 : World) (h1 : Kd.C (Kd.int .u8) w1 A1 l.length l) (h2 : l.length ≤ c1) :
    Calls Try.prog 103 #[.agg #[], .slice A1 l.length c1] w1 fun e w' => e = .returned (.string r) ∧ Below w1.heap.size w1 w' := by
  obtain rfl := Option.some.inj h
  exact latin_calls A1 c1 _ w1 h1 h2 hl hall
theorem clo_calls (k e : Nat) (he : e ≤ 3) (b : Bool) (gF gC : Nat) (A : Option Addr) (c : Nat) (l : List Int) (r : ByteArray) (w : World) (hF : w.cell? ⟨gF, 1, none⟩ = some (.bool b)) (hC : w.cell? ⟨gC, 0, none⟩ = some (codV e)) (hr : Kd.C (Kd.int .u8) w A l.length l) (hc : l.length ≤ c) (hall : ∀ x ∈ l, 0 ≤ x ∧ x ≤ 255) (hl : l.length ≤ 1099511627776) (h : rdF k e b l = some r) :
    Calls Try.prog 66 #[.slice A l.length c, .pointer (some ⟨gF, 0, none⟩), .pointer (some ⟨gC, 0, none⟩)] w fun e w' => e = .returned (.string r) ∧ Below w.heap.size w w' := by
  unfold rdF at h
  cases b with
  | true =>
    rw [if_pos rfl] at h
    obtain rfl | rfl | rfl | rfl : e = 0 ∨ e = 1 ∨ e = 2 ∨ e = 3 := by omega
    · exact clo_calls0b gF gC A c l true r w hF hC hr hc (readK_calls0 k l r hall hl h)
    · exact clo_calls1b gF gC A c l true r w hF hC hr hc (readK_calls1 k l r h)
    · exact clo_calls2b gF gC A c l true r w hF hC hr hc (readK_calls2 k l r h)
    · exact clo_calls3b gF gC A c l true r w hF hC hr hc (readK_calls3 k l r hall hl h)
  | false =>
    rw [if_neg (by decide)] at h
    obtain ⟨p, hp, h⟩ := Option.bind_eq_some_iff.1 h
    have hz := cutB_len (l := l) e p
    have ha := cutB_all (l := l) e p hall
    obtain rfl | rfl | rfl | rfl : e = 0 ∨ e = 1 ∨ e = 2 ∨ e = 3 := by omega
    · exact clo_calls0n gF gC A c l p r w hF hC hr hc hp (readK_calls0 k _ r ha (by omega) h)
    · exact clo_calls1n gF gC A c l p r w hF hC hr hc hp (readK_calls1 k _ r h)
    · exact clo_calls2n gF gC A c l p r w hF hC hr hc hp (readK_calls2 k _ r h)
    · exact clo_calls3n gF gC A c l p r w hF hC hr hc hp (readK_calls3 k _ r ha (by omega) h)
def impl_FeedEnd.f (k : Nat) (a0_0 : Int) (a0_1 : Bool) (l0_2 : List Int) : Option ByteArray :=
  if bytesOk l0_2 = true then
    (if a0_0 = 0 ∨ a0_0 = 1 ∨ a0_0 = 2 ∨ a0_0 = 3 then
      (if l0_2.length ≤ 3 then rdF k a0_0.toNat a0_1 l0_2 else some ⟨#[]⟩)
    else some ⟨#[]⟩)
  else none
theorem impl_FeedEnd.mono : ∀ a0 a1 a2 k, LeO (impl_FeedEnd.f k a0 a1 a2) (impl_FeedEnd.f (k + 1) a0 a1 a2) := by
  intro a0 a1 a2 k
  unfold impl_FeedEnd.f
  exact LeO.ite (LeO.ite (LeO.ite (rdF_mono k _ _ _) (LeO.refl _)) (LeO.refl _)) (LeO.refl _)
theorem impl_FeedEnd.calls (k : Nat) (a0_0 : Int) (a0_1 : Bool) (A0_2 : Option Addr) (c0_2 : Nat) (l0_2 : List Int) (r : ByteArray) (w : World) (hr0_2 : Kd.C (Kd.int .u8) w A0_2 l0_2.length l0_2) (hc0_2 : l0_2.length ≤ c0_2) (h : impl_FeedEnd.f k a0_0 a0_1 l0_2 = some r) :
    Calls Try.prog 24 #[.agg #[.int .i64 a0_0, .bool a0_1, .slice A0_2 l0_2.length c0_2]] w fun e w' => e = .returned (.string r) ∧ Below w.heap.size w w' := by
  unfold impl_FeedEnd.f at h
  by_cases hb : bytesOk l0_2 = true
  · rw [if_pos hb] at h
    have hall := bytesOk_all hb
    by_cases ha : a0_0 = 0 ∨ a0_0 = 1 ∨ a0_0 = 2 ∨ a0_0 = 3
    · rw [if_pos ha] at h
      by_cases hl : l0_2.length ≤ 3
      · rw [if_pos hl] at h
        rcases ha with rfl | rfl | rfl | rfl
        · exact end_calls0 a0_1 A0_2 c0_2 l0_2 r w hl fun gF gC w1 hbl hF hC => clo_calls k 0 (by omega) a0_1 gF gC A0_2 c0_2 l0_2 r w1 hF hC (Kd.C_below hr0_2 hbl) hc0_2 hall (by omega) h
        · exact end_calls1 a0_1 A0_2 c0_2 l0_2 r w hl fun gF gC w1 hbl hF hC => clo_calls k 1 (by omega) a0_1 gF gC A0_2 c0_2 l0_2 r w1 hF hC (Kd.C_below hr0_2 hbl) hc0_2 hall (by omega) h
        · exact end_calls2 a0_1 A0_2 c0_2 l0_2 r w hl fun gF gC w1 hbl hF hC => clo_calls k 2 (by omega) a0_1 gF gC A0_2 c0_2 l0_2 r w1 hF hC (Kd.C_below hr0_2 hbl) hc0_2 hall (by omega) h
        · exact end_calls3 a0_1 A0_2 c0_2 l0_2 r w hl fun gF gC w1 hbl hF hC => clo_calls k 3 (by omega) a0_1 gF gC A0_2 c0_2 l0_2 r w1 hF hC (Kd.C_below hr0_2 hbl) hc0_2 hall (by omega) h
      · rw [if_neg hl] at h
        obtain rfl := Option.some.inj h
        rcases ha with rfl | rfl | rfl | rfl
        · exact end_long0 a0_1 A0_2 c0_2 l0_2 w hl
        · exact end_long1 a0_1 A0_2 c0_2 l0_2 w hl
        · exact end_long2 a0_1 A0_2 c0_2 l0_2 w hl
        · exact end_long3 a0_1 A0_2 c0_2 l0_2 w hl
    · rw [if_neg ha] at h
      obtain rfl := Option.some.inj h
      exact end_none a0_0 a0_1 A0_2 c0_2 l0_2 w (fun z => ha (.inl z)) (fun z => ha (.inr (.inl z))) (fun z => ha (.inr (.inr (.inl z)))) (fun z => ha (.inr (.inr (.inr z))))
  · rw [if_neg hb] at h
    cases h

/-! ### laws_eqByteS: function 20 -/
def laws_eqByteS.l0 : Nat → List Int → List Int → Int → Option (Bool)
  | 0, _, _, _ => none
  | k + 1, x0, x1, x5 => if x5 < (x0.length : Int) then (if 0 ≤ x5 then (if x5 < (x1.length : Int) then (if (rd x0 x5) = (rd x1 x5) then (laws_eqByteS.l0 k x0 x1 (wrap64 (x5 + 1))) else (some false)) else (none)) else (none)) else (some true)
def laws_eqByteS.f (k : Nat) (l0 : List Int) (l1 : List Int) : Option (Bool) := if (l0.length : Int) = (l1.length : Int) then (laws_eqByteS.l0 k l0 l1 0) else (some false)
theorem laws_eqByteS.mono_l : ∀ k, (∀ y0 y1 y2, LeO (laws_eqByteS.l0 k y0 y1 y2) (laws_eqByteS.l0 (k + 1) y0 y1 y2))
  | 0 => fun _ _ _ r h => by simp [laws_eqByteS.l0] at h
  | k + 1 => by
    have ih0 := laws_eqByteS.mono_l k
    · intro y0 y1 y2
      unfold laws_eqByteS.l0
      repeat' first
      | (with_reducible exact ih0 _ _ _)
      | (with_reducible exact LeO.refl _)
      | (with_reducible exact LeO.none _)
      | (with_reducible refine LeO.ite ?_ ?_)
      | (with_reducible refine LeO.bind ?_ (fun _ => ?_))
      | exact ih0 _ _ _
      | exact LeO.none _
      | refine LeO.ite ?_ ?_
      | refine LeO.bind ?_ (fun _ => ?_)
theorem laws_eqByteS.mono : ∀ a0 a1 k, LeO (laws_eqByteS.f k a0 a1) (laws_eqByteS.f (k + 1) a0 a1) := by
  intro a0 a1 k
  have ih0 := laws_eqByteS.mono_l k
  unfold laws_eqByteS.f
  repeat' first
      | (with_reducible exact ih0 _ _ _)
      | (with_reducible exact LeO.refl _)
      | (with_reducible exact LeO.none _)
      | (with_reducible refine LeO.ite ?_ ?_)
      | (with_reducible refine LeO.bind ?_ (fun _ => ?_))
      | exact ih0 _ _ _
      | exact LeO.none _
      | refine LeO.ite ?_ ?_
      | refine LeO.bind ?_ (fun _ => ?_)
set_option maxHeartbeats 8000000 in
set_option maxRecDepth 100000 in
theorem laws_eqByteS.calls (k : Nat) (A0 : Option Addr) (c0 : Nat) (l0 : List Int) (A1 : Option Addr) (c1 : Nat) (l1 : List Int) (r : Bool) (w : World) (hr0 : Kd.C (Kd.int .u8) w A0 l0.length l0) (hc0 : l0.length ≤ c0) (hr1 : Kd.C (Kd.int .u8) w A1 l1.length l1) (hc1 : l1.length ≤ c1) (h : laws_eqByteS.f k l0 l1 = some r) :
    Calls Try.prog 20 #[.slice A0 l0.length c0, .slice A1 l1.length c1] w fun e w' => e = .returned (.bool r) ∧ Drawn0 w w' := by
  have HR0 := Aside0.mk hr0
  have HC0 := Aside0.mk hc0
  clear hr0 hc0
  have HR1 := Aside0.mk hr1
  have HC1 := Aside0.mk hc1
  clear hr1 hc1
  have H : (if (l0.length : Int) = (l1.length : Int) then (laws_eqByteS.l0 k l0 l1 0) else (some false)) = some r := h
  clear h
  by_cases c3 : (l0.length : Int) = (l1.length : Int)
  · rw [if_pos c3] at H
    have c3b0 : ((l0.length : Int) == (l1.length : Int)) = true := beq_iff_eq.mpr c3
    have c3b1 : ((l0.length : Int) != (l1.length : Int)) = false := bne_eq_false_iff_eq.mpr c3
    have c3b2 : (l0.length == l1.length) = true := by first | simpa using c3 | (simp at c3 ⊢; omega)
    clear c3
    have H' := Aside0.mk H
    clear H
    go_enter Try.func20, Try.ntmps20
    go_wp2
    repeat (go_quiet (fail); try go_wp2)
    go_loopg [5] k (fun kq v5 w' => ∃ (x5_1 : Int), v5 = .int .i64 x5_1 ∧ Aside0 (laws_eqByteS.l0 kq l0 l1 x5_1 = some r) ∧ Aside0 (kq ≤ k) ∧ Drawn0 w w')
    case atStart => exact ⟨(0), (by first | rfl | (simp; done) | (simp [*]; done)), H', ⟨Nat.le_refl _⟩, by repeat (first | exact Drawn0.refl _ | apply Drawn0.step)⟩
    case round =>
      clear H'
      try clear c1
      try clear c2
      try clear p2
      try clear c3
      try clear c3b0
      try clear c3b1
      try clear c3b2
      obtain ⟨x5_1, rfl, HA, HK1, ⟨m1, rfl⟩⟩ := hrel
      cases gk with
      | zero => exact absurd HA.out (by simp [laws_eqByteS.l0])
      | succ k1 =>
        have H := HA.out
        clear HA
        simp only [laws_eqByteS.l0] at H
        by_cases c4 : x5_1 < (l0.length : Int)
        · rw [if_pos c4] at H
          have c4b0 : decide (x5_1 < (l0.length : Int)) = true := decide_eq_true c4
          clear c4
          by_cases c5 : 0 ≤ x5_1
          · rw [if_pos c5] at H
            have c5b0 : decide (0 ≤ x5_1) = true := decide_eq_true c5
            clear c5
            by_cases c6 : x5_1 < (l1.length : Int)
            · rw [if_pos c6] at H
              have c6b0 : decide (x5_1 < (l1.length : Int)) = true := decide_eq_true c6
              clear c6
              by_cases c7 : (rd l0 x5_1) = (rd l1 x5_1)
              · rw [if_pos c7] at H
                have c7b0 : ((rd l0 x5_1) == (rd l1 x5_1)) = true := beq_iff_eq.mpr c7
                have c7b1 : ((rd l0 x5_1) != (rd l1 x5_1)) = false := bne_eq_false_iff_eq.mpr c7
                clear c7
                have H' := Aside0.mk H
                clear H
                have p274 : 0 ≤ (x5_1 : Int) := of_decide_eq_true (by first | (with_reducible assumption) | assumption)
                have q274 : x5_1 < (l0.length : Int) := of_decide_eq_true (by first | (with_reducible assumption) | assumption)
                obtain ⟨ad274, e274, hx274_0⟩ := Kd.at_int HR0.out x5_1 p274 q274
                cases e274
                replace p274 := eq_true p274
                replace q274 := eq_true q274
                have p275 : 0 ≤ (x5_1 : Int) := of_decide_eq_true (by first | (with_reducible assumption) | assumption)
                have q275 : x5_1 < (l1.length : Int) := of_decide_eq_true (by first | (with_reducible assumption) | assumption)
                obtain ⟨ad275, e275, hx275_0⟩ := Kd.at_int HR1.out x5_1 p275 q275
                cases e275
                replace p275 := eq_true p275
                replace q275 := eq_true q275
                go_wp2
                repeat (go_quiet (fail); try go_wp2)
                go_roundg k1
                case measure => have := HK1.out; omega
                case rel => exact ⟨(wrap64 (x5_1 + 1)), (by first | rfl | (simp; done) | (simp [*]; done)), H', ⟨by have := HK1.out; omega⟩, by repeat (first | exact Drawn0.refl _ | apply Drawn0.step)⟩
              · rw [if_neg c7] at H
                have c7b0 : ((rd l0 x5_1) == (rd l1 x5_1)) = false := beq_eq_false_iff_ne.mpr c7
                have c7b1 : ((rd l0 x5_1) != (rd l1 x5_1)) = true := bne_iff_ne.mpr c7
                obtain rfl := Option.some.inj H
                have p274 : 0 ≤ (x5_1 : Int) := of_decide_eq_true (by first | (with_reducible assumption) | assumption)
                have q274 : x5_1 < (l0.length : Int) := of_decide_eq_true (by first | (with_reducible assumption) | assumption)
                obtain ⟨ad274, e274, hx274_0⟩ := Kd.at_int HR0.out x5_1 p274 q274
                cases e274
                replace p274 := eq_true p274
                replace q274 := eq_true q274
                have p275 : 0 ≤ (x5_1 : Int) := of_decide_eq_true (by first | (with_reducible assumption) | assumption)
                have q275 : x5_1 < (l1.length : Int) := of_decide_eq_true (by first | (with_reducible assumption) | assumption)
                obtain ⟨ad275, e275, hx275_0⟩ := Kd.at_int HR1.out x5_1 p275 q275
                cases e275
                replace p275 := eq_true p275
                replace q275 := eq_true q275
                go_wp2
                repeat (go_quiet (fail); try go_wp2)
                go_ret
                exact ⟨by first | rfl | (simp; done) | (simp [*]; done), by repeat (first | exact Drawn0.refl _ | apply Drawn0.step)⟩
            · rw [if_neg c6] at H
              exact absurd H (by simp)
          · rw [if_neg c5] at H
            exact absurd H (by simp)
        · rw [if_neg c4] at H
          have c4b0 : decide (x5_1 < (l0.length : Int)) = false := decide_eq_false c4
          clear c4
          obtain rfl := Option.some.inj H
          go_wp2
          repeat (go_quiet (fail); try go_wp2)
          go_ret
          exact ⟨by first | rfl | (simp; done) | (simp [*]; done), by repeat (first | exact Drawn0.refl _ | apply Drawn0.step)⟩
  · rw [if_neg c3] at H
    have c3b0 : ((l0.length : Int) == (l1.length : Int)) = false := beq_eq_false_iff_ne.mpr c3
    have c3b1 : ((l0.length : Int) != (l1.length : Int)) = true := bne_iff_ne.mpr c3
    have c3b2 : (l0.length == l1.length) = false := by first | simpa using c3 | (simp at c3 ⊢; omega)
    obtain rfl := Option.some.inj H
    go_enter Try.func20, Try.ntmps20
    go_wp2
    repeat (go_quiet (fail); try go_wp2)
    go_ret
    exact ⟨by first | rfl | (simp; done) | (simp [*]; done), by repeat (first | exact Drawn0.refl _ | apply Drawn0.step)⟩

/-! ### laws_eqFeed: function 25 -/
def laws_eqFeed.f (k : Nat) (a0_0 : Int) (a0_1 : Bool) (l0_2 : List Int) (a1_0 : Int) (a1_1 : Bool) (l1_2 : List Int) : Option (Bool) := if a0_0 = a1_0 then (if (a0_1 != a1_1) = true then (some false) else ((laws_eqByteS.f k l0_2 l1_2).bind fun t278 => (if t278 = true then (some true) else (some false)))) else (some false)
theorem laws_eqFeed.mono : ∀ a0 a1 a2 a3 a4 a5 k, LeO (laws_eqFeed.f k a0 a1 a2 a3 a4 a5) (laws_eqFeed.f (k + 1) a0 a1 a2 a3 a4 a5) := by
  intro a0 a1 a2 a3 a4 a5 k
  unfold laws_eqFeed.f
  repeat' first
      | (with_reducible exact laws_eqByteS.mono _ _ _)
      | (with_reducible exact LeO.refl _)
      | (with_reducible exact LeO.none _)
      | (with_reducible refine LeO.ite ?_ ?_)
      | (with_reducible refine LeO.bind ?_ (fun _ => ?_))
      | exact laws_eqByteS.mono _ _ _
      | exact LeO.none _
      | refine LeO.ite ?_ ?_
      | refine LeO.bind ?_ (fun _ => ?_)
set_option maxHeartbeats 8000000 in
set_option maxRecDepth 100000 in
theorem laws_eqFeed.calls (k : Nat) (a0_0 : Int) (a0_1 : Bool) (A0_2 : Option Addr) (c0_2 : Nat) (l0_2 : List Int) (a1_0 : Int) (a1_1 : Bool) (A1_2 : Option Addr) (c1_2 : Nat) (l1_2 : List Int) (r : Bool) (w : World) (hr0_2 : Kd.C (Kd.int .u8) w A0_2 l0_2.length l0_2) (hc0_2 : l0_2.length ≤ c0_2) (hr1_2 : Kd.C (Kd.int .u8) w A1_2 l1_2.length l1_2) (hc1_2 : l1_2.length ≤ c1_2) (h : laws_eqFeed.f k a0_0 a0_1 l0_2 a1_0 a1_1 l1_2 = some r) :
    Calls Try.prog 25 #[.agg #[.int .i64 a0_0, .bool a0_1, .slice A0_2 l0_2.length c0_2], .agg #[.int .i64 a1_0, .bool a1_1, .slice A1_2 l1_2.length c1_2]] w fun e w' => e = .returned (.bool r) ∧ Below w.heap.size w w' := by
  have hu38 := Try.underlying38
  have HR0_2 := Aside0.mk hr0_2
  have HC0_2 := Aside0.mk hc0_2
  clear hr0_2 hc0_2
  have HR1_2 := Aside0.mk hr1_2
  have HC1_2 := Aside0.mk hc1_2
  clear hr1_2 hc1_2
  have HB := Aside0.mk (Below.refl w.heap.size w)
  have H : (if a0_0 = a1_0 then (if (a0_1 != a1_1) = true then (some false) else ((laws_eqByteS.f k l0_2 l1_2).bind fun t278 => (if t278 = true then (some true) else (some false)))) else (some false)) = some r := h
  clear h
  by_cases c3 : a0_0 = a1_0
  · rw [if_pos c3] at H
    have c3b0 : (a0_0 == a1_0) = true := beq_iff_eq.mpr c3
    have c3b1 : (a0_0 != a1_0) = false := bne_eq_false_iff_eq.mpr c3
    clear c3
    by_cases c4 : (a0_1 != a1_1) = true
    · rw [if_pos c4] at H
      have c4b0 : (a0_1 != a1_1) = true := c4
      (try (have c4b1 : decide (a0_1 = a1_1) = false := by simpa using c4))
      (try (have c4b2 : (a0_1 == a1_1) = false := by simpa using c4))
      (try (have c4b3 : ¬ (a0_1 = a1_1) := by simpa using c4))
      clear c4
      obtain rfl := Option.some.inj H
      go_enter Try.func25, Try.ntmps25
      go_wp2_with (first | ((with_reducible refine gate_dst (N := 2) rfl ?_); refine box_event ?hg (N := 2) ?hd (cs := #[.int .i64 a0_0, .bool a0_1, .slice A0_2 l0_2.length c0_2]) (t := 38) ?hr ?_; (case hd => rfl); (case hg => rfl); (case hr => first | (go_simp; done) | (go_simp; rfl)); intro gb276 hg w5 hbox hb; have n0_ := Aside0.mk (below_step (by repeat (first | (with_reducible first | exact HB.out | apply below_alloc | apply pw_below_drewN | apply below_drew1) | exact HB.out)) hb); have n1_ := Aside0.mk (hbox); have n2_ := Aside0.mk ((by rw [hg]; exact (below_size (by repeat (first | (with_reducible first | exact HB.out | apply below_alloc | apply pw_below_drewN | apply below_drew1) | exact HB.out))) : w.heap.size ≤ gb276)); have n3_ := Aside0.mk ((by rw [hg]; exact (below_size (by repeat (first | (with_reducible first | exact HB.out | apply below_alloc | apply pw_below_drewN | apply below_drew1) | exact HB.out))) : w.heap.size ≤ gb276)); clear HB; have HB := n0_; have BK276 := n1_; have GW276 := n2_; have GE276 := n3_; clear n0_ n1_ n2_ n3_; clear hb hbox hg) | ((with_reducible refine gate_dst (N := 3) rfl ?_); refine box_event ?hg (N := 3) ?hd (cs := #[.int .i64 a1_0, .bool a1_1, .slice A1_2 l1_2.length c1_2]) (t := 38) ?hr ?_; (case hd => rfl); (case hg => rfl); (case hr => first | (go_simp; done) | (go_simp; rfl)); intro gb277 hg w6 hbox hb; have n0_ := Aside0.mk (blk_below (g := gb276) (o := .cells #[.int .i64 a0_0, .bool a0_1, .slice A0_2 l0_2.length c0_2] 38 (0, 0)) (by (with_reducible repeat (first | refine blk_drewN ?_ _ | refine blk_drew ?_ | refine blk_alloc ?_ _)); exact BK276.out) hb); have n1_ := Aside0.mk (below_step (by repeat (first | (with_reducible first | exact HB.out | apply below_alloc | apply pw_below_drewN | apply below_drew1 | refine below_set ?_ GE276.out) | exact HB.out)) hb); have n2_ := Aside0.mk (hbox); have n3_ := Aside0.mk ((by rw [hg]; exact (below_size (by repeat (first | (with_reducible first | exact HB.out | apply below_alloc | apply pw_below_drewN | apply below_drew1 | refine below_set ?_ GE276.out) | exact HB.out))) : w.heap.size ≤ gb277)); have n4_ := Aside0.mk ((by rw [hg]; exact (below_size (by repeat (first | (with_reducible first | exact HB.out | apply below_alloc | apply pw_below_drewN | apply below_drew1 | refine below_set ?_ GE276.out) | exact HB.out))) : w.heap.size ≤ gb277)); have n5_ := Aside0.mk ((by rw [hg]; exact Nat.ne_of_lt (blk_lt (g := gb276) (o := .cells #[.int .i64 a0_0, .bool a0_1, .slice A0_2 l0_2.length c0_2] 38 (0, 0)) (by (with_reducible repeat (first | refine blk_drewN ?_ _ | refine blk_drew ?_ | refine blk_alloc ?_ _)); exact BK276.out)) : gb276 ≠ gb277)); have n6_ := Aside0.mk ((by rw [hg]; exact Nat.ne_of_gt (blk_lt (g := gb276) (o := .cells #[.int .i64 a0_0, .bool a0_1, .slice A0_2 l0_2.length c0_2] 38 (0, 0)) (by (with_reducible repeat (first | refine blk_drewN ?_ _ | refine blk_drew ?_ | refine blk_alloc ?_ _)); exact BK276.out)) : gb277 ≠ gb276)); clear BK276; clear HB; have BK276 := n0_; have HB := n1_; have BK277 := n2_; have GW277 := n3_; have GE277 := n4_; have NB276_277 := n5_; have NB277_276 := n6_; clear n0_ n1_ n2_ n3_ n4_ n5_ n6_; clear hb hbox hg; have hnb7 := NB276_277.out; have hnc7 := NB277_276.out; have hcz8_0 : w6.cell? ⟨gb276, 0, none⟩ = some (.int .i64 a0_0) := (blk_cell BK276.out 0).trans rfl; have hcz8_1 : w6.cell? ⟨gb276, 1, none⟩ = some (.bool a0_1) := (blk_cell BK276.out 1).trans rfl; have hcz8_2 : w6.cell? ⟨gb276, 2, none⟩ = some (.slice A0_2 l0_2.length c0_2) := (blk_cell BK276.out 2).trans rfl; have hfz8_0 := blk_frozen BK276.out 0; have hfz8_1 := blk_frozen BK276.out 1; have hfz8_2 := blk_frozen BK276.out 2; have hcz9_0 : w6.cell? ⟨gb277, 0, none⟩ = some (.int .i64 a1_0) := (blk_cell BK277.out 0).trans rfl; have hcz9_1 : w6.cell? ⟨gb277, 1, none⟩ = some (.bool a1_1) := (blk_cell BK277.out 1).trans rfl; have hcz9_2 : w6.cell? ⟨gb277, 2, none⟩ = some (.slice A1_2 l1_2.length c1_2) := (blk_cell BK277.out 2).trans rfl; have hfz9_0 := blk_frozen BK277.out 0; have hfz9_1 := blk_frozen BK277.out 1; have hfz9_2 := blk_frozen BK277.out 2))
      go_ret
      exact ⟨by first | rfl | (simp [errW_none, errW_some] <;> rfl) | (simp [*, errW_none, errW_some] <;> rfl), by repeat (first | (with_reducible first | exact HB.out | apply below_alloc | apply pw_below_drewN | apply below_drew1 | refine below_set ?_ GE276.out | refine below_set ?_ GE277.out) | exact HB.out)⟩
    · rw [if_neg c4] at H
      have c4b0 : (a0_1 != a1_1) = false := by simpa using c4
      (try (have c4b1 : decide (a0_1 = a1_1) = true := by simpa using c4))
      (try (have c4b2 : (a0_1 == a1_1) = true := by simpa using c4))
      clear c4
      replace H := Option.bind_eq_some_iff.mp H
      obtain ⟨t278, A100, H⟩ := H
      replace H : (if t278 = true then (some true) else (some false)) = some r := H
      have A10 := Aside0.mk A100
      clear A100
      by_cases c11 : t278 = true
      · subst c11
        have H1 : (some true) = some r := by rw [if_pos rfl] at H; exact H
        clear H
        have H := H1
        clear H1
        obtain rfl := Option.some.inj H
        go_enter Try.func25, Try.ntmps25
        go_wp2_with (first | ((with_reducible refine gate_dst (N := 2) rfl ?_); refine box_event ?hg (N := 2) ?hd (cs := #[.int .i64 a0_0, .bool a0_1, .slice A0_2 l0_2.length c0_2]) (t := 38) ?hr ?_; (case hd => rfl); (case hg => rfl); (case hr => first | (go_simp; done) | (go_simp; rfl)); intro gb276 hg w12 hbox hb; have n0_ := Aside0.mk (below_step (by repeat (first | (with_reducible first | exact HB.out | apply below_alloc | apply pw_below_drewN | apply below_drew1) | exact HB.out)) hb); have n1_ := Aside0.mk (hbox); have n2_ := Aside0.mk ((by rw [hg]; exact (below_size (by repeat (first | (with_reducible first | exact HB.out | apply below_alloc | apply pw_below_drewN | apply below_drew1) | exact HB.out))) : w.heap.size ≤ gb276)); have n3_ := Aside0.mk ((by rw [hg]; exact (below_size (by repeat (first | (with_reducible first | exact HB.out | apply below_alloc | apply pw_below_drewN | apply below_drew1) | exact HB.out))) : w.heap.size ≤ gb276)); clear HB; have HB := n0_; have BK276 := n1_; have GW276 := n2_; have GE276 := n3_; clear n0_ n1_ n2_ n3_; clear hb hbox hg) | ((with_reducible refine gate_dst (N := 3) rfl ?_); refine box_event ?hg (N := 3) ?hd (cs := #[.int .i64 a1_0, .bool a1_1, .slice A1_2 l1_2.length c1_2]) (t := 38) ?hr ?_; (case hd => rfl); (case hg => rfl); (case hr => first | (go_simp; done) | (go_simp; rfl)); intro gb277 hg w13 hbox hb; have n0_ := Aside0.mk (blk_below (g := gb276) (o := .cells #[.int .i64 a0_0, .bool a0_1, .slice A0_2 l0_2.length c0_2] 38 (0, 0)) (by (with_reducible repeat (first | refine blk_drewN ?_ _ | refine blk_drew ?_ | refine blk_alloc ?_ _)); exact BK276.out) hb); have n1_ := Aside0.mk (below_step (by repeat (first | (with_reducible first | exact HB.out | apply below_alloc | apply pw_below_drewN | apply below_drew1 | refine below_set ?_ GE276.out) | exact HB.out)) hb); have n2_ := Aside0.mk (hbox); have n3_ := Aside0.mk ((by rw [hg]; exact (below_size (by repeat (first | (with_reducible first | exact HB.out | apply below_alloc | apply pw_below_drewN | apply below_drew1 | refine below_set ?_ GE276.out) | exact HB.out))) : w.heap.size ≤ gb277)); have n4_ := Aside0.mk ((by rw [hg]; exact (below_size (by repeat (first | (with_reducible first | exact HB.out | apply below_alloc | apply pw_below_drewN | apply below_drew1 | refine below_set ?_ GE276.out) | exact HB.out))) : w.heap.size ≤ gb277)); have n5_ := Aside0.mk ((by rw [hg]; exact Nat.ne_of_lt (blk_lt (g := gb276) (o := .cells #[.int .i64 a0_0, .bool a0_1, .slice A0_2 l0_2.length c0_2] 38 (0, 0)) (by (with_reducible repeat (first | refine blk_drewN ?_ _ | refine blk_drew ?_ | refine blk_alloc ?_ _)); exact BK276.out)) : gb276 ≠ gb277)); have n6_ := Aside0.mk ((by rw [hg]; exact Nat.ne_of_gt (blk_lt (g := gb276) (o := .cells #[.int .i64 a0_0, .bool a0_1, .slice A0_2 l0_2.length c0_2] 38 (0, 0)) (by (with_reducible repeat (first | refine blk_drewN ?_ _ | refine blk_drew ?_ | refine blk_alloc ?_ _)); exact BK276.out)) : gb277 ≠ gb276)); clear BK276; clear HB; have BK276 := n0_; have HB := n1_; have BK277 := n2_; have GW277 := n3_; have GE277 := n4_; have NB276_277 := n5_; have NB277_276 := n6_; clear n0_ n1_ n2_ n3_ n4_ n5_ n6_; clear hb hbox hg; have hnb14 := NB276_277.out; have hnc14 := NB277_276.out; have hcz15_0 : w13.cell? ⟨gb276, 0, none⟩ = some (.int .i64 a0_0) := (blk_cell BK276.out 0).trans rfl; have hcz15_1 : w13.cell? ⟨gb276, 1, none⟩ = some (.bool a0_1) := (blk_cell BK276.out 1).trans rfl; have hcz15_2 : w13.cell? ⟨gb276, 2, none⟩ = some (.slice A0_2 l0_2.length c0_2) := (blk_cell BK276.out 2).trans rfl; have hfz15_0 := blk_frozen BK276.out 0; have hfz15_1 := blk_frozen BK276.out 1; have hfz15_2 := blk_frozen BK276.out 2; have hcz16_0 : w13.cell? ⟨gb277, 0, none⟩ = some (.int .i64 a1_0) := (blk_cell BK277.out 0).trans rfl; have hcz16_1 : w13.cell? ⟨gb277, 1, none⟩ = some (.bool a1_1) := (blk_cell BK277.out 1).trans rfl; have hcz16_2 : w13.cell? ⟨gb277, 2, none⟩ = some (.slice A1_2 l1_2.length c1_2) := (blk_cell BK277.out 2).trans rfl; have hfz16_0 := blk_frozen BK277.out 0; have hfz16_1 := blk_frozen BK277.out 1; have hfz16_2 := blk_frozen BK277.out 2) | ((with_reducible refine gate_callee (f := 20) rfl ?_); refine goesL_ (some 19) rfl rfl Try.func20 (by kernel_rfl) rfl #[.slice A0_2 l0_2.length c0_2, .slice A1_2 l1_2.length c1_2] rfl (by (try simp only [List.map_toArray, List.map_cons, List.map_nil]); first | done | rfl | (simp only [List.length_drop, List.length_take]; rfl)) ?_; (with_reducible refine (laws_eqByteS.calls k _ _ l0_2 _ _ l1_2 true _ ?side1 ?side2 ?side3 ?side4 A10.out).mono ?_); (case side1 => repeat (first | exact (Kd.C_below HR0_2.out HB.out) | (with_reducible refine Kd.C_alloc ?_ _) | (with_reducible refine Kd.C_drewN ?_ _) | (with_reducible refine Kd.C_drew ?_))); (case side2 => exact HC0_2.out); (case side3 => repeat (first | exact (Kd.C_below HR1_2.out HB.out) | (with_reducible refine Kd.C_alloc ?_ _) | (with_reducible refine Kd.C_drewN ?_ _) | (with_reducible refine Kd.C_drew ?_))); (case side4 => exact HC1_2.out); rintro e w' ⟨rfl, ⟨nd, rfl⟩⟩; refine ⟨_, rfl, ?_⟩))
        go_ret
        exact ⟨by first | rfl | (simp [errW_none, errW_some] <;> rfl) | (simp [*, errW_none, errW_some] <;> rfl), by repeat (first | (with_reducible first | exact HB.out | apply below_alloc | apply pw_below_drewN | apply below_drew1 | refine below_set ?_ GE276.out | refine below_set ?_ GE277.out) | exact HB.out)⟩
      · replace c11 := Bool.eq_false_iff.mpr c11
        subst c11
        have H1 : (some false) = some r := by rw [if_neg (show ¬ (false = true) by decide)] at H; exact H
        clear H
        have H := H1
        clear H1
        obtain rfl := Option.some.inj H
        go_enter Try.func25, Try.ntmps25
        go_wp2_with (first | ((with_reducible refine gate_dst (N := 2) rfl ?_); refine box_event ?hg (N := 2) ?hd (cs := #[.int .i64 a0_0, .bool a0_1, .slice A0_2 l0_2.length c0_2]) (t := 38) ?hr ?_; (case hd => rfl); (case hg => rfl); (case hr => first | (go_simp; done) | (go_simp; rfl)); intro gb276 hg w17 hbox hb; have n0_ := Aside0.mk (below_step (by repeat (first | (with_reducible first | exact HB.out | apply below_alloc | apply pw_below_drewN | apply below_drew1) | exact HB.out)) hb); have n1_ := Aside0.mk (hbox); have n2_ := Aside0.mk ((by rw [hg]; exact (below_size (by repeat (first | (with_reducible first | exact HB.out | apply below_alloc | apply pw_below_drewN | apply below_drew1) | exact HB.out))) : w.heap.size ≤ gb276)); have n3_ := Aside0.mk ((by rw [hg]; exact (below_size (by repeat (first | (with_reducible first | exact HB.out | apply below_alloc | apply pw_below_drewN | apply below_drew1) | exact HB.out))) : w.heap.size ≤ gb276)); clear HB; have HB := n0_; have BK276 := n1_; have GW276 := n2_; have GE276 := n3_; clear n0_ n1_ n2_ n3_; clear hb hbox hg) | ((with_reducible refine gate_dst (N := 3) rfl ?_); refine box_event ?hg (N := 3) ?hd (cs := #[.int .i64 a1_0, .bool a1_1, .slice A1_2 l1_2.length c1_2]) (t := 38) ?hr ?_; (case hd => rfl); (case hg => rfl); (case hr => first | (go_simp; done) | (go_simp; rfl)); intro gb277 hg w18 hbox hb; have n0_ := Aside0.mk (blk_below (g := gb276) (o := .cells #[.int .i64 a0_0, .bool a0_1, .slice A0_2 l0_2.length c0_2] 38 (0, 0)) (by (with_reducible repeat (first | refine blk_drewN ?_ _ | refine blk_drew ?_ | refine blk_alloc ?_ _)); exact BK276.out) hb); have n1_ := Aside0.mk (below_step (by repeat (first | (with_reducible first | exact HB.out | apply below_alloc | apply pw_below_drewN | apply below_drew1 | refine below_set ?_ GE276.out) | exact HB.out)) hb); have n2_ := Aside0.mk (hbox); have n3_ := Aside0.mk ((by rw [hg]; exact (below_size (by repeat (first | (with_reducible first | exact HB.out | apply below_alloc | apply pw_below_drewN | apply below_drew1 | refine below_set ?_ GE276.out) | exact HB.out))) : w.heap.size ≤ gb277)); have n4_ := Aside0.mk ((by rw [hg]; exact (below_size (by repeat (first | (with_reducible first | exact HB.out | apply below_alloc | apply pw_below_drewN | apply below_drew1 | refine below_set ?_ GE276.out) | exact HB.out))) : w.heap.size ≤ gb277)); have n5_ := Aside0.mk ((by rw [hg]; exact Nat.ne_of_lt (blk_lt (g := gb276) (o := .cells #[.int .i64 a0_0, .bool a0_1, .slice A0_2 l0_2.length c0_2] 38 (0, 0)) (by (with_reducible repeat (first | refine blk_drewN ?_ _ | refine blk_drew ?_ | refine blk_alloc ?_ _)); exact BK276.out)) : gb276 ≠ gb277)); have n6_ := Aside0.mk ((by rw [hg]; exact Nat.ne_of_gt (blk_lt (g := gb276) (o := .cells #[.int .i64 a0_0, .bool a0_1, .slice A0_2 l0_2.length c0_2] 38 (0, 0)) (by (with_reducible repeat (first | refine blk_drewN ?_ _ | refine blk_drew ?_ | refine blk_alloc ?_ _)); exact BK276.out)) : gb277 ≠ gb276)); clear BK276; clear HB; have BK276 := n0_; have HB := n1_; have BK277 := n2_; have GW277 := n3_; have GE277 := n4_; have NB276_277 := n5_; have NB277_276 := n6_; clear n0_ n1_ n2_ n3_ n4_ n5_ n6_; clear hb hbox hg; have hnb19 := NB276_277.out; have hnc19 := NB277_276.out; have hcz20_0 : w18.cell? ⟨gb276, 0, none⟩ = some (.int .i64 a0_0) := (blk_cell BK276.out 0).trans rfl; have hcz20_1 : w18.cell? ⟨gb276, 1, none⟩ = some (.bool a0_1) := (blk_cell BK276.out 1).trans rfl; have hcz20_2 : w18.cell? ⟨gb276, 2, none⟩ = some (.slice A0_2 l0_2.length c0_2) := (blk_cell BK276.out 2).trans rfl; have hfz20_0 := blk_frozen BK276.out 0; have hfz20_1 := blk_frozen BK276.out 1; have hfz20_2 := blk_frozen BK276.out 2; have hcz21_0 : w18.cell? ⟨gb277, 0, none⟩ = some (.int .i64 a1_0) := (blk_cell BK277.out 0).trans rfl; have hcz21_1 : w18.cell? ⟨gb277, 1, none⟩ = some (.bool a1_1) := (blk_cell BK277.out 1).trans rfl; have hcz21_2 : w18.cell? ⟨gb277, 2, none⟩ = some (.slice A1_2 l1_2.length c1_2) := (blk_cell BK277.out 2).trans rfl; have hfz21_0 := blk_frozen BK277.out 0; have hfz21_1 := blk_frozen BK277.out 1; have hfz21_2 := blk_frozen BK277.out 2) | ((with_reducible refine gate_callee (f := 20) rfl ?_); refine goesL_ (some 19) rfl rfl Try.func20 (by kernel_rfl) rfl #[.slice A0_2 l0_2.length c0_2, .slice A1_2 l1_2.length c1_2] rfl (by (try simp only [List.map_toArray, List.map_cons, List.map_nil]); first | done | rfl | (simp only [List.length_drop, List.length_take]; rfl)) ?_; (with_reducible refine (laws_eqByteS.calls k _ _ l0_2 _ _ l1_2 false _ ?side1 ?side2 ?side3 ?side4 A10.out).mono ?_); (case side1 => repeat (first | exact (Kd.C_below HR0_2.out HB.out) | (with_reducible refine Kd.C_alloc ?_ _) | (with_reducible refine Kd.C_drewN ?_ _) | (with_reducible refine Kd.C_drew ?_))); (case side2 => exact HC0_2.out); (case side3 => repeat (first | exact (Kd.C_below HR1_2.out HB.out) | (with_reducible refine Kd.C_alloc ?_ _) | (with_reducible refine Kd.C_drewN ?_ _) | (with_reducible refine Kd.C_drew ?_))); (case side4 => exact HC1_2.out); rintro e w' ⟨rfl, ⟨nd, rfl⟩⟩; refine ⟨_, rfl, ?_⟩))
        go_ret
        exact ⟨by first | rfl | (simp [errW_none, errW_some] <;> rfl) | (simp [*, errW_none, errW_some] <;> rfl), by repeat (first | (with_reducible first | exact HB.out | apply below_alloc | apply pw_below_drewN | apply below_drew1 | refine below_set ?_ GE276.out | refine below_set ?_ GE277.out) | exact HB.out)⟩
  · rw [if_neg c3] at H
    have c3b0 : (a0_0 == a1_0) = false := beq_eq_false_iff_ne.mpr c3
    have c3b1 : (a0_0 != a1_0) = true := bne_iff_ne.mpr c3
    obtain rfl := Option.some.inj H
    go_enter Try.func25, Try.ntmps25
    go_wp2_with (first | ((with_reducible refine gate_dst (N := 2) rfl ?_); refine box_event ?hg (N := 2) ?hd (cs := #[.int .i64 a0_0, .bool a0_1, .slice A0_2 l0_2.length c0_2]) (t := 38) ?hr ?_; (case hd => rfl); (case hg => rfl); (case hr => first | (go_simp; done) | (go_simp; rfl)); intro gb276 hg w22 hbox hb; have n0_ := Aside0.mk (below_step (by repeat (first | (with_reducible first | exact HB.out | apply below_alloc | apply pw_below_drewN | apply below_drew1) | exact HB.out)) hb); have n1_ := Aside0.mk (hbox); have n2_ := Aside0.mk ((by rw [hg]; exact (below_size (by repeat (first | (with_reducible first | exact HB.out | apply below_alloc | apply pw_below_drewN | apply below_drew1) | exact HB.out))) : w.heap.size ≤ gb276)); have n3_ := Aside0.mk ((by rw [hg]; exact (below_size (by repeat (first | (with_reducible first | exact HB.out | apply below_alloc | apply pw_below_drewN | apply below_drew1) | exact HB.out))) : w.heap.size ≤ gb276)); clear HB; have HB := n0_; have BK276 := n1_; have GW276 := n2_; have GE276 := n3_; clear n0_ n1_ n2_ n3_; clear hb hbox hg) | ((with_reducible refine gate_dst (N := 3) rfl ?_); refine box_event ?hg (N := 3) ?hd (cs := #[.int .i64 a1_0, .bool a1_1, .slice A1_2 l1_2.length c1_2]) (t := 38) ?hr ?_; (case hd => rfl); (case hg => rfl); (case hr => first | (go_simp; done) | (go_simp; rfl)); intro gb277 hg w23 hbox hb; have n0_ := Aside0.mk (blk_below (g := gb276) (o := .cells #[.int .i64 a0_0, .bool a0_1, .slice A0_2 l0_2.length c0_2] 38 (0, 0)) (by (with_reducible repeat (first | refine blk_drewN ?_ _ | refine blk_drew ?_ | refine blk_alloc ?_ _)); exact BK276.out) hb); have n1_ := Aside0.mk (below_step (by repeat (first | (with_reducible first | exact HB.out | apply below_alloc | apply pw_below_drewN | apply below_drew1 | refine below_set ?_ GE276.out) | exact HB.out)) hb); have n2_ := Aside0.mk (hbox); have n3_ := Aside0.mk ((by rw [hg]; exact (below_size (by repeat (first | (with_reducible first | exact HB.out | apply below_alloc | apply pw_below_drewN | apply below_drew1 | refine below_set ?_ GE276.out) | exact HB.out))) : w.heap.size ≤ gb277)); have n4_ := Aside0.mk ((by rw [hg]; exact (below_size (by repeat (first | (with_reducible first | exact HB.out | apply below_alloc | apply pw_below_drewN | apply below_drew1 | refine below_set ?_ GE276.out) | exact HB.out))) : w.heap.size ≤ gb277)); have n5_ := Aside0.mk ((by rw [hg]; exact Nat.ne_of_lt (blk_lt (g := gb276) (o := .cells #[.int .i64 a0_0, .bool a0_1, .slice A0_2 l0_2.length c0_2] 38 (0, 0)) (by (with_reducible repeat (first | refine blk_drewN ?_ _ | refine blk_drew ?_ | refine blk_alloc ?_ _)); exact BK276.out)) : gb276 ≠ gb277)); have n6_ := Aside0.mk ((by rw [hg]; exact Nat.ne_of_gt (blk_lt (g := gb276) (o := .cells #[.int .i64 a0_0, .bool a0_1, .slice A0_2 l0_2.length c0_2] 38 (0, 0)) (by (with_reducible repeat (first | refine blk_drewN ?_ _ | refine blk_drew ?_ | refine blk_alloc ?_ _)); exact BK276.out)) : gb277 ≠ gb276)); clear BK276; clear HB; have BK276 := n0_; have HB := n1_; have BK277 := n2_; have GW277 := n3_; have GE277 := n4_; have NB276_277 := n5_; have NB277_276 := n6_; clear n0_ n1_ n2_ n3_ n4_ n5_ n6_; clear hb hbox hg; have hnb24 := NB276_277.out; have hnc24 := NB277_276.out; have hcz25_0 : w23.cell? ⟨gb276, 0, none⟩ = some (.int .i64 a0_0) := (blk_cell BK276.out 0).trans rfl; have hcz25_1 : w23.cell? ⟨gb276, 1, none⟩ = some (.bool a0_1) := (blk_cell BK276.out 1).trans rfl; have hcz25_2 : w23.cell? ⟨gb276, 2, none⟩ = some (.slice A0_2 l0_2.length c0_2) := (blk_cell BK276.out 2).trans rfl; have hfz25_0 := blk_frozen BK276.out 0; have hfz25_1 := blk_frozen BK276.out 1; have hfz25_2 := blk_frozen BK276.out 2; have hcz26_0 : w23.cell? ⟨gb277, 0, none⟩ = some (.int .i64 a1_0) := (blk_cell BK277.out 0).trans rfl; have hcz26_1 : w23.cell? ⟨gb277, 1, none⟩ = some (.bool a1_1) := (blk_cell BK277.out 1).trans rfl; have hcz26_2 : w23.cell? ⟨gb277, 2, none⟩ = some (.slice A1_2 l1_2.length c1_2) := (blk_cell BK277.out 2).trans rfl; have hfz26_0 := blk_frozen BK277.out 0; have hfz26_1 := blk_frozen BK277.out 1; have hfz26_2 := blk_frozen BK277.out 2))
    go_ret
    exact ⟨by first | rfl | (simp [errW_none, errW_some] <;> rfl) | (simp [*, errW_none, errW_some] <;> rfl), by repeat (first | (with_reducible first | exact HB.out | apply below_alloc | apply pw_below_drewN | apply below_drew1 | refine below_set ?_ GE276.out | refine below_set ?_ GE277.out) | exact HB.out)⟩

end Go.Proofs.Ytmffcjjodkggcaa.MFnExactFeedEnd
