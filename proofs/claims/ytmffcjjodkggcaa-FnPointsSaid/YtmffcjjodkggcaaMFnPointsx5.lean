-- Written by this session's own program (wip/gen/myprint.py).
import Derived.Test.YtmffcjjodkggcaaMFnPointsx0
import Derived.Test.YtmffcjjodkggcaaMFnPointsx1
import Derived.Test.YtmffcjjodkggcaaMFnPointsx2
import Derived.Test.YtmffcjjodkggcaaMFnPointsx3
import Derived.Test.YtmffcjjodkggcaaMFnPointsx4
namespace Go.Proofs.Ytmffcjjodkggcaa.MFnPoints
open Go.RowKit Go.Proofs.YtmffcjjodkggcaaW.PrintWords Go.Proofs.YtmffcjjodkggcaaW.PrintLast Go.Proofs.YtmffcjjodkggcaaW.PrintMore
attribute [local go_sem] max2_int min2_int max_two min_two max_three min_three max_four min_four   -- for this text's walks alone
set_option linter.unusedVariables false
set_option linter.unusedSimpArgs false

/-! ### impl_Decode: function 14, by hand -/
/-! ### the four codings, as interface values -/
def codV : Nat → Value
  | 0 => .iface 54 (.agg #[])
  | 1 => .iface 86 (.agg #[.bool false])
  | 2 => .iface 86 (.agg #[.bool true])
  | _ => .iface 87 (.agg #[])
def markB : Nat → ByteArray
  | 0 => ⟨#[239, 187, 191]⟩
  | 1 => ⟨#[255, 254]⟩
  | 2 => ⟨#[254, 255]⟩
  | _ => ⟨#[]⟩
set_option maxHeartbeats 4000000 in
set_option maxRecDepth 100000 in
theorem cod_calls0 (w : World) : Calls Try.prog 40 #[.int .i64 0] w fun e w' => e = .returned (codV 0) ∧ Below w.heap.size w w' := by
  have HB := Aside0.mk (Below.refl w.heap.size w)
  go_enter Try.func40, Try.ntmps40
  go_wp2
  go_ret
  exact ⟨rfl, HB.out⟩
set_option maxHeartbeats 4000000 in
set_option maxRecDepth 100000 in
theorem cod_calls1 (w : World) : Calls Try.prog 40 #[.int .i64 1] w fun e w' => e = .returned (codV 1) ∧ Below w.heap.size w w' := by
  have HB := Aside0.mk (Below.refl w.heap.size w)
  go_enter Try.func40, Try.ntmps40
  go_wp2
  go_ret
  exact ⟨rfl, HB.out⟩
set_option maxHeartbeats 4000000 in
set_option maxRecDepth 100000 in
theorem cod_calls2 (w : World) : Calls Try.prog 40 #[.int .i64 2] w fun e w' => e = .returned (codV 2) ∧ Below w.heap.size w w' := by
  have HB := Aside0.mk (Below.refl w.heap.size w)
  go_enter Try.func40, Try.ntmps40
  go_wp2
  go_ret
  exact ⟨rfl, HB.out⟩
set_option maxHeartbeats 4000000 in
set_option maxRecDepth 100000 in
theorem cod_calls3 (w : World) : Calls Try.prog 40 #[.int .i64 3] w fun e w' => e = .returned (codV 3) ∧ Below w.heap.size w w' := by
  have HB := Aside0.mk (Below.refl w.heap.size w)
  go_enter Try.func40, Try.ntmps40
  go_wp2
  go_ret
  exact ⟨rfl, HB.out⟩
set_option maxHeartbeats 4000000 in
set_option maxRecDepth 100000 in
theorem cod_callsN (a : Int) (w : World) (h0 : a ≠ 0) (h1 : a ≠ 1) (h2 : a ≠ 2) (h3 : a ≠ 3) : Calls Try.prog 40 #[.int .i64 a] w fun e w' => e = .returned .nilIface ∧ Below w.heap.size w w' := by
  have HB := Aside0.mk (Below.refl w.heap.size w)
  have b0 : (a == 0) = false := beq_eq_false_iff_ne.mpr h0
  have b1 : (a == 1) = false := beq_eq_false_iff_ne.mpr h1
  have b2 : (a == 2) = false := beq_eq_false_iff_ne.mpr h2
  have b3 : (a == 3) = false := beq_eq_false_iff_ne.mpr h3
  clear h0 h1 h2 h3
  go_enter Try.func40, Try.ntmps40
  go_wp2
  go_ret
  exact ⟨rfl, HB.out⟩
set_option maxHeartbeats 4000000 in
set_option maxRecDepth 100000 in
theorem mark_calls0 (w : World) : Calls Try.prog 93 #[.agg #[]] w fun e w' => e = .returned (.string (markB 0)) ∧ Below w.heap.size w w' := by
  have hu := Try.underlying54
  have HB := Aside0.mk (Below.refl w.heap.size w)
  go_enter Try.func93, Try.ntmps93
  go_wp2
  go_ret
  exact ⟨rfl, below_alloc HB.out _⟩
set_option maxHeartbeats 4000000 in
set_option maxRecDepth 100000 in
theorem mark_calls3 (w : World) : Calls Try.prog 102 #[.agg #[]] w fun e w' => e = .returned (.string (markB 3)) ∧ Below w.heap.size w w' := by
  have hu := Try.underlying87
  have HB := Aside0.mk (Below.refl w.heap.size w)
  go_enter Try.func102, Try.ntmps102
  go_wp2
  go_ret
  exact ⟨rfl, below_alloc HB.out _⟩
theorem mark_calls1 (w : World) : Calls Try.prog 96 #[.agg #[.bool false]] w fun e w' => e = .returned (.string (markB 1)) ∧ Below w.heap.size w w' := impl_pairCoding_mark.calls false (markB 1) w rfl
theorem mark_calls2 (w : World) : Calls Try.prog 96 #[.agg #[.bool true]] w fun e w' => e = .returned (.string (markB 2)) ∧ Below w.heap.size w w' := impl_pairCoding_mark.calls true (markB 2) w rfl
/-! ### the mark ahead of bytes -/
theorem pre_le {l : List Int} {m : ByteArray} (h : strings_HasPrefix.f (strOfNums l) m = some true) : m.size ≤ l.length := by
  have hs := strOfNums_size l
  unfold strings_HasPrefix.f stringslite_HasPrefix.f at h
  by_cases c : ((strOfNums l).size : Int) ≥ (m.size : Int)
  · omega
  · rw [if_neg c] at h; cases h
set_option maxHeartbeats 4000000 in
set_option maxRecDepth 100000 in
theorem bare_calls0 (A : Option Addr) (c : Nat) (l : List Int) (p : Bool) (w : World) (hr : Kd.C (Kd.int .u8) w A l.length l) (hc : l.length ≤ c) (hp : strings_HasPrefix.f (strOfNums l) (markB 0) = some p) (hle : p = true → (markB 0).size ≤ l.length) :
    Calls Try.prog 41 #[codV 0, .slice A l.length c] w fun e w' => Below w.heap.size w w' ∧ ∃ A1 c1, e = .returned (.slice A1 (if p = true then l.drop (markB 0).size else l).length c1) ∧ Kd.C (Kd.int .u8) w A1 (if p = true then l.drop (markB 0).size else l).length (if p = true then l.drop (markB 0).size else l) ∧ (if p = true then l.drop (markB 0).size else l).length ≤ c1 := by
  have HB := Aside0.mk (Below.refl w.heap.size w)
  have HP := Aside0.mk hp
  have HR := Aside0.mk hr
  have HC := Aside0.mk hc
  clear hp hr hc
  show Calls Try.prog 41 #[.iface 54 (.agg #[]), .slice A l.length c] w _
  have HLE := Aside0.mk hle
  clear hle
  obtain ⟨i0, hi0, _, hz1, _⟩ := info_parts infoB
  cases p with
  | false =>
    clear hi0 hz1
    go_enter Try.func41, Try.ntmps41
    go_wp2_with (first | (go_at_call 93; refine (mark_calls0 w).mono ?_; rintro e w1 ⟨rfl, hb⟩; have HB1 := Aside0.mk hb; clear hb HB; have hcv := Kd.C_string (P := Try.prog) (n := l.length) (c := c) (dst := 9) Try.underlying22 Try.underlying5 Try.underlying9 (Kd.C_below HR.out HB1.out)) | (go_at_call 61; refine (strings_HasPrefix.calls (strOfNums l) (markB 0) false w1 HP.out).mono ?_; rintro e w' ⟨rfl, ⟨nd, rfl⟩⟩; have HB2 := Aside0.mk (pw_below_drewN HB1.out nd)))
    go_ret
    exact ⟨HB2.out, A, c, rfl, HR.out, HC.out⟩
  | true =>
    have hle := HLE.out rfl
    have hcut := cut_from (P := Try.prog) 22 5 .i64 Try.underlying22 hi0 1 hz1 A l.length c ((markB 0).size : Int) (by omega) (by omega)
    rw [Int.toNat_natCast] at hcut
    have HR2 := Kd.C_drop (k := Kd.int .u8) (m := (markB 0).size) (c := c) HR.out hle HC.out
    have hsz1 : (Kd.int .u8).sz = 1 := rfl
    rw [hsz1] at HR2
    obtain ⟨A', hA'⟩ : ∃ A', A' = (if c = (markB 0).size then A else A.map (·.add ((markB 0).size * 1))) := ⟨_, rfl⟩
    rw [← hA'] at hcut HR2
    have hld : (l.drop (markB 0).size).length = l.length - (markB 0).size := List.length_drop
    rw [← hld] at hcut
    replace HR2 := Aside0.mk HR2
    have HLD := Aside0.mk hld
    clear hA' hld hi0 hz1 hsz1 hle
    go_enter Try.func41, Try.ntmps41
    go_wp2_with (first | (go_at_call 93; refine (mark_calls0 w).mono ?_; rintro e w1 ⟨rfl, hb⟩; have HB1 := Aside0.mk hb; clear hb HB; have hcv := Kd.C_string (P := Try.prog) (n := l.length) (c := c) (dst := 9) Try.underlying22 Try.underlying5 Try.underlying9 (Kd.C_below HR.out HB1.out)) | (go_at_call 61; refine (strings_HasPrefix.calls (strOfNums l) (markB 0) true w1 HP.out).mono ?_; rintro e w' ⟨rfl, ⟨nd, rfl⟩⟩; have HB2 := Aside0.mk (pw_below_drewN HB1.out nd)))
    go_ret
    exact ⟨HB2.out, A', c - (markB 0).size, rfl, by have h := HR2.out; rwa [HLD.out] at h, by have h := HC.out; have h2 := HLE.out (by first | rfl | trivial); omega⟩
set_option maxHeartbeats 4000000 in
set_option maxRecDepth 100000 in
theorem bare_calls1 (A : Option Addr) (c : Nat) (l : List Int) (p : Bool) (w : World) (hr : Kd.C (Kd.int .u8) w A l.length l) (hc : l.length ≤ c) (hp : strings_HasPrefix.f (strOfNums l) (markB 1) = some p) (hle : p = true → (markB 1).size ≤ l.length) :
    Calls Try.prog 41 #[codV 1, .slice A l.length c] w fun e w' => Below w.heap.size w w' ∧ ∃ A1 c1, e = .returned (.slice A1 (if p = true then l.drop (markB 1).size else l).length c1) ∧ Kd.C (Kd.int .u8) w A1 (if p = true then l.drop (markB 1).size else l).length (if p = true then l.drop (markB 1).size else l) ∧ (if p = true then l.drop (markB 1).size else l).length ≤ c1 := by
  have HB := Aside0.mk (Below.refl w.heap.size w)
  have HP := Aside0.mk hp
  have HR := Aside0.mk hr
  have HC := Aside0.mk hc
  clear hp hr hc
  show Calls Try.prog 41 #[.iface 86 (.agg #[.bool false]), .slice A l.length c] w _
  have HLE := Aside0.mk hle
  clear hle
  obtain ⟨i0, hi0, _, hz1, _⟩ := info_parts infoB
  cases p with
  | false =>
    clear hi0 hz1
    go_enter Try.func41, Try.ntmps41
    go_wp2_with (first | (go_at_call 96; refine (mark_calls1 w).mono ?_; rintro e w1 ⟨rfl, hb⟩; have HB1 := Aside0.mk hb; clear hb HB; have hcv := Kd.C_string (P := Try.prog) (n := l.length) (c := c) (dst := 9) Try.underlying22 Try.underlying5 Try.underlying9 (Kd.C_below HR.out HB1.out)) | (go_at_call 61; refine (strings_HasPrefix.calls (strOfNums l) (markB 1) false w1 HP.out).mono ?_; rintro e w' ⟨rfl, ⟨nd, rfl⟩⟩; have HB2 := Aside0.mk (pw_below_drewN HB1.out nd)))
    go_ret
    exact ⟨HB2.out, A, c, rfl, HR.out, HC.out⟩
  | true =>
    have hle := HLE.out rfl
    have hcut := cut_from (P := Try.prog) 22 5 .i64 Try.underlying22 hi0 1 hz1 A l.length c ((markB 1).size : Int) (by omega) (by omega)
    rw [Int.toNat_natCast] at hcut
    have HR2 := Kd.C_drop (k := Kd.int .u8) (m := (markB 1).size) (c := c) HR.out hle HC.out
    have hsz1 : (Kd.int .u8).sz = 1 := rfl
    rw [hsz1] at HR2
    obtain ⟨A', hA'⟩ : ∃ A', A' = (if c = (markB 1).size then A else A.map (·.add ((markB 1).size * 1))) := ⟨_, rfl⟩
    rw [← hA'] at hcut HR2
    have hld : (l.drop (markB 1).size).length = l.length - (markB 1).size := List.length_drop
    rw [← hld] at hcut
    replace HR2 := Aside0.mk HR2
    have HLD := Aside0.mk hld
    clear hA' hld hi0 hz1 hsz1 hle
    go_enter Try.func41, Try.ntmps41
    go_wp2_with (first | (go_at_call 96; refine (mark_calls1 w).mono ?_; rintro e w1 ⟨rfl, hb⟩; have HB1 := Aside0.mk hb; clear hb HB; have hcv := Kd.C_string (P := Try.prog) (n := l.length) (c := c) (dst := 9) Try.underlying22 Try.underlying5 Try.underlying9 (Kd.C_below HR.out HB1.out)) | (go_at_call 61; refine (strings_HasPrefix.calls (strOfNums l) (markB 1) true w1 HP.out).mono ?_; rintro e w' ⟨rfl, ⟨nd, rfl⟩⟩; have HB2 := Aside0.mk (pw_below_drewN HB1.out nd)))
    go_ret
    exact ⟨HB2.out, A', c - (markB 1).size, rfl, by have h := HR2.out; rwa [HLD.out] at h, by have h := HC.out; have h2 := HLE.out (by first | rfl | trivial); omega⟩
set_option maxHeartbeats 4000000 in
set_option maxRecDepth 100000 in
theorem bare_calls2 (A : Option Addr) (c : Nat) (l : List Int) (p : Bool) (w : World) (hr : Kd.C (Kd.int .u8) w A l.length l) (hc : l.length ≤ c) (hp : strings_HasPrefix.f (strOfNums l) (markB 2) = some p) (hle : p = true → (markB 2).size ≤ l.length) :
    Calls Try.prog 41 #[codV 2, .slice A l.length c] w fun e w' => Below w.heap.size w w' ∧ ∃ A1 c1, e = .returned (.slice A1 (if p = true then l.drop (markB 2).size else l).length c1) ∧ Kd.C (Kd.int .u8) w A1 (if p = true then l.drop (markB 2).size else l).length (if p = true then l.drop (markB 2).size else l) ∧ (if p = true then l.drop (markB 2).size else l).length ≤ c1 := by
  have HB := Aside0.mk (Below.refl w.heap.size w)
  have HP := Aside0.mk hp
  have HR := Aside0.mk hr
  have HC := Aside0.mk hc
  clear hp hr hc
  show Calls Try.prog 41 #[.iface 86 (.agg #[.bool true]), .slice A l.length c] w _
  have HLE := Aside0.mk hle
  clear hle
  obtain ⟨i0, hi0, _, hz1, _⟩ := info_parts infoB
  cases p with
  | false =>
    clear hi0 hz1
    go_enter Try.func41, Try.ntmps41
    go_wp2_with (first | (go_at_call 96; refine (mark_calls2 w).mono ?_; rintro e w1 ⟨rfl, hb⟩; have HB1 := Aside0.mk hb; clear hb HB; have hcv := Kd.C_string (P := Try.prog) (n := l.length) (c := c) (dst := 9) Try.underlying22 Try.underlying5 Try.underlying9 (Kd.C_below HR.out HB1.out)) | (go_at_call 61; refine (strings_HasPrefix.calls (strOfNums l) (markB 2) false w1 HP.out).mono ?_; rintro e w' ⟨rfl, ⟨nd, rfl⟩⟩; have HB2 := Aside0.mk (pw_below_drewN HB1.out nd)))
    go_ret
    exact ⟨HB2.out, A, c, rfl, HR.out, HC.out⟩
  | true =>
    have hle := HLE.out rfl
    have hcut := cut_from (P := Try.prog) 22 5 .i64 Try.underlying22 hi0 1 hz1 A l.length c ((markB 2).size : Int) (by omega) (by omega)
    rw [Int.toNat_natCast] at hcut
    have HR2 := Kd.C_drop (k := Kd.int .u8) (m := (markB 2).size) (c := c) HR.out hle HC.out
    have hsz1 : (Kd.int .u8).sz = 1 := rfl
    rw [hsz1] at HR2
    obtain ⟨A', hA'⟩ : ∃ A', A' = (if c = (markB 2).size then A else A.map (·.add ((markB 2).size * 1))) := ⟨_, rfl⟩
    rw [← hA'] at hcut HR2
    have hld : (l.drop (markB 2).size).length = l.length - (markB 2).size := List.length_drop
    rw [← hld] at hcut
    replace HR2 := Aside0.mk HR2
    have HLD := Aside0.mk hld
    clear hA' hld hi0 hz1 hsz1 hle
    go_enter Try.func41, Try.ntmps41
    go_wp2_with (first | (go_at_call 96; refine (mark_calls2 w).mono ?_; rintro e w1 ⟨rfl, hb⟩; have HB1 := Aside0.mk hb; clear hb HB; have hcv := Kd.C_string (P := Try.prog) (n := l.length) (c := c) (dst := 9) Try.underlying22 Try.underlying5 Try.underlying9 (Kd.C_below HR.out HB1.out)) | (go_at_call 61; refine (strings_HasPrefix.calls (strOfNums l) (markB 2) true w1 HP.out).mono ?_; rintro e w' ⟨rfl, ⟨nd, rfl⟩⟩; have HB2 := Aside0.mk (pw_below_drewN HB1.out nd)))
    go_ret
    exact ⟨HB2.out, A', c - (markB 2).size, rfl, by have h := HR2.out; rwa [HLD.out] at h, by have h := HC.out; have h2 := HLE.out (by first | rfl | trivial); omega⟩
set_option maxHeartbeats 4000000 in
set_option maxRecDepth 100000 in
theorem bare_calls3 (A : Option Addr) (c : Nat) (l : List Int) (p : Bool) (w : World) (hr : Kd.C (Kd.int .u8) w A l.length l) (hc : l.length ≤ c) (hp : strings_HasPrefix.f (strOfNums l) (markB 3) = some p) (hle : p = true → (markB 3).size ≤ l.length) :
    Calls Try.prog 41 #[codV 3, .slice A l.length c] w fun e w' => Below w.heap.size w w' ∧ ∃ A1 c1, e = .returned (.slice A1 (if p = true then l.drop (markB 3).size else l).length c1) ∧ Kd.C (Kd.int .u8) w A1 (if p = true then l.drop (markB 3).size else l).length (if p = true then l.drop (markB 3).size else l) ∧ (if p = true then l.drop (markB 3).size else l).length ≤ c1 := by
  have HB := Aside0.mk (Below.refl w.heap.size w)
  have HP := Aside0.mk hp
  have HR := Aside0.mk hr
  have HC := Aside0.mk hc
  clear hp hr hc
  show Calls Try.prog 41 #[.iface 87 (.agg #[]), .slice A l.length c] w _
  have HLE := Aside0.mk hle
  clear hle
  obtain ⟨i0, hi0, _, hz1, _⟩ := info_parts infoB
  cases p with
  | false =>
    clear hi0 hz1
    go_enter Try.func41, Try.ntmps41
    go_wp2_with (first | (go_at_call 102; refine (mark_calls3 w).mono ?_; rintro e w1 ⟨rfl, hb⟩; have HB1 := Aside0.mk hb; clear hb HB; have hcv := Kd.C_string (P := Try.prog) (n := l.length) (c := c) (dst := 9) Try.underlying22 Try.underlying5 Try.underlying9 (Kd.C_below HR.out HB1.out)) | (go_at_call 61; refine (strings_HasPrefix.calls (strOfNums l) (markB 3) false w1 HP.out).mono ?_; rintro e w' ⟨rfl, ⟨nd, rfl⟩⟩; have HB2 := Aside0.mk (pw_below_drewN HB1.out nd)))
    go_ret
    exact ⟨HB2.out, A, c, rfl, HR.out, HC.out⟩
  | true =>
    have hle := HLE.out rfl
    have hcut := cut_from (P := Try.prog) 22 5 .i64 Try.underlying22 hi0 1 hz1 A l.length c ((markB 3).size : Int) (by omega) (by omega)
    rw [Int.toNat_natCast] at hcut
    have HR2 := Kd.C_drop (k := Kd.int .u8) (m := (markB 3).size) (c := c) HR.out hle HC.out
    have hsz1 : (Kd.int .u8).sz = 1 := rfl
    rw [hsz1] at HR2
    obtain ⟨A', hA'⟩ : ∃ A', A' = (if c = (markB 3).size then A else A.map (·.add ((markB 3).size * 1))) := ⟨_, rfl⟩
    rw [← hA'] at hcut HR2
    have hld : (l.drop (markB 3).size).length = l.length - (markB 3).size := List.length_drop
    rw [← hld] at hcut
    replace HR2 := Aside0.mk HR2
    have HLD := Aside0.mk hld
    clear hA' hld hi0 hz1 hsz1 hle
    go_enter Try.func41, Try.ntmps41
    go_wp2_with (first | (go_at_call 102; refine (mark_calls3 w).mono ?_; rintro e w1 ⟨rfl, hb⟩; have HB1 := Aside0.mk hb; clear hb HB; have hcv := Kd.C_string (P := Try.prog) (n := l.length) (c := c) (dst := 9) Try.underlying22 Try.underlying5 Try.underlying9 (Kd.C_below HR.out HB1.out)) | (go_at_call 61; refine (strings_HasPrefix.calls (strOfNums l) (markB 3) true w1 HP.out).mono ?_; rintro e w' ⟨rfl, ⟨nd, rfl⟩⟩; have HB2 := Aside0.mk (pw_below_drewN HB1.out nd)))
    go_ret
    exact ⟨HB2.out, A', c - (markB 3).size, rfl, by have h := HR2.out; rwa [HLD.out] at h, by have h := HC.out; have h2 := HLE.out (by first | rfl | trivial); omega⟩
/-! ### bytes read one by one -/
set_option maxHeartbeats 4000000 in
set_option maxRecDepth 100000 in
theorem latin_calls (A : Option Addr) (c : Nat) (l : List Int) (w : World) (hr : Kd.C (Kd.int .u8) w A l.length l) (hc : l.length ≤ c) (hl : l.length ≤ 1099511627776) (hrg : ∀ x ∈ l, 0 ≤ x ∧ x ≤ 255) :
    Calls Try.prog 103 #[.agg #[], .slice A l.length c] w fun e w' => e = .returned (.string (strOfNums (encU l))) ∧ Below w.heap.size w w' := by
  have hu87 := Try.underlying87
  have hu22 := Try.underlying22
  have HR := Aside0.mk hr
  have HC := Aside0.mk hc
  have HL := Aside0.mk hl
  have HRG := Aside0.mk hrg
  clear hr hc hl hrg
  have HB := Aside0.mk (Below.refl w.heap.size w)
  go_enter Try.func103, Try.ntmps103
  go_wp2_with (first | ((with_reducible refine gate_dst (N := 8) rfl ?_); refine Kd.R_lit (Kd.int .i64) _ 3 ?hg (N := 8) ?hd (xs := ([] : List Int)) (inner := []) (ok := fun _ => True) (okp := fun _ => True) ?hr ?hp (fun _ hk => hk) trivial (Below.refl _ _) (Nat.le_refl _) (by simp) ?_; (case hd => rfl); (case hg => rfl); (case hr => first | (go_simp; done) | (go_simp; rfl)); (case hp => exact (Reps.none _ _)); intro v3 w3 ho3 hb hg_ hnew_; clear hg_ hnew_; have HB2 := Aside0.mk (below_step (below_alloc HB.out (.cells #[] 87)) hb); have HO1 := Aside0.mk (Kd.R_lower ho3 (below_size (below_alloc HB.out (.cells #[] 87)))); clear HB hb ho3))
  go_loopg [5, 11] l.length (fun kq v5 v11 w' => ∃ i : Nat, v11 = .int .i64 (i : Int) ∧ Aside0 (i + kq = l.length) ∧ Aside0 (Kd.R (Kd.int .i64) 3 w' w.heap.size (fun _ => True) v5 (l.take i)) ∧ Aside0 (Below w.heap.size w w'))
  case atStart => exact ⟨0, rfl, ⟨by omega⟩, HO1, HB2⟩
  case round =>
    clear HO1 HB2
    obtain ⟨i, rfl, HI, HO, HB⟩ := hrel
    by_cases c0 : i < l.length
    · have c1 : decide ((i : Int) < (l.length : Int)) = true := decide_eq_true (by omega)
      have c1n : decide (i < l.length) = true := decide_eq_true c0
      have hk : gk ≠ 0 := by have := HI.out; omega
      obtain ⟨k1, rfl⟩ := Nat.exists_eq_succ_of_ne_zero hk
      clear hk
      have p1 : 0 ≤ (i : Int) := by omega
      have q1 : (i : Int) < (l.length : Int) := by omega
      obtain ⟨ad, e1, hx⟩ := Kd.at_int HR.out (i : Int) p1 q1
      cases e1
      replace hx := (HB.out.cell (World.block_lt_of_cell? w _ hx)).trans hx
      replace p1 := eq_true p1
      replace q1 := eq_true q1
      have hel := HRG.out l[i] (List.getElem_mem c0)
      have hrd : rd l (i : Int) = l[i] := rd_n1 l i c0
      rw [hrd, Int.toNat_natCast] at hx
      obtain ⟨x, hxx⟩ : ∃ x, x = l[i] := ⟨_, rfl⟩
      rw [← hxx] at hx hel
      have HWX : Aside0 (wrap64 x = x) := ⟨by unfold wrap64; omega⟩
      have HT : Aside0 (l.take i ++ [wrap64 x] = l.take (i + 1)) := ⟨by rw [HWX.out, hxx, List.take_add_one, List.getElem?_eq_getElem c0]; rfl⟩
      have HLT : Aside0 ((l.take i).length < 17592186044416) := ⟨by rw [List.length_take]; have := HL.out; omega⟩
      have HW : Aside0 (wrap64 ((i : Int) + 1) = ((i + 1 : Nat) : Int)) := ⟨by have := HL.out; unfold wrap64; omega⟩
      obtain ⟨ys, hys⟩ : ∃ ys, ys = l.take i := ⟨_, rfl⟩
      rw [← hys] at HO HT HLT
      clear hxx hrd hys c0 hel
      go_wp2_with (first | ((with_reducible refine gate_builtin (b := .append) (xs := #[.tmp 15, .tmp 18]) rfl ?_); go_loud (at_builtin; refine Kd.R_append (Kd.int .i64) (w0 := w) w.heap.size rfl (.tmp 15) (.tmp 18) 24 3 (.int .i64 0) 8 rfl Try.underlying24 info3 rfl (by decide) (by omega) u5 ys (wrap64 x) [.int .i64 (wrap64 x)] (fun _ => True) (fun _ => False) rfl rfl ?aP (fun _ hk => hk.elim) ?aF ?aO ?aB ?aS ?aL ?_; (case aP => exact rfl); (case aB => exact (by repeat (first | (with_reducible first | exact HB.out | apply below_alloc | apply pw_below_drewN | apply below_drew1) | exact HB.out))); (case aF => exact (fun _ _ => trivial)); (case aO => exact (by (with_reducible repeat (first | apply Kd.R_alloc | apply Kd.R_drewN | apply Kd.R_drew)); exact HO.out)); (case aS => exact (below_size (by repeat (first | (with_reducible first | exact HB.out | apply below_alloc | apply pw_below_drewN | apply below_drew1) | exact HB.out)))); (case aL => have := HLT.out; omega); intro v7 w7 ho hb hg hat; have HO3 := Aside0.mk ho; have HB3 := Aside0.mk hb; clear ho hb hg hat)))
      go_roundg k1
      case measure => omega
      case rel => exact ⟨i + 1, congrArg (Value.int .i64) HW.out, ⟨by have := HI.out; omega⟩, ⟨by rw [← HT.out]; exact HO3.out⟩, HB3⟩
    · have c1 : decide ((i : Int) < (l.length : Int)) = false := decide_eq_false (by omega)
      have c1n : decide (i < l.length) = false := decide_eq_false c0
      have HE : Aside0 (l.take i = l) := ⟨List.take_of_length_le (by omega)⟩
      rw [HE.out] at HO
      clear c0
      obtain ⟨A2, c2, e2, _, _⟩ := Kd.R_reads HO.out
      subst e2
      have hq := (Kd.R_reads' HO.out)
      have HQ := Aside0.mk hq
      clear hq
      go_wp2_with (go_at_call 10; refine (enc_calls A2 c2 l wr HQ.out.2.2 HQ.out.2.1 HL.out).mono ?_; rintro e w' ⟨rfl, hb⟩; have HB2 := Aside0.mk (below_step HB.out hb); clear hb)
      go_ret
      exact ⟨rfl, HB2.out⟩
/-! ### a text of bytes, by each coding -/
def cutB (e : Nat) (p : Bool) (l : List Int) : List Int := if p = true then l.drop (markB e).size else l
set_option maxHeartbeats 4000000 in
set_option maxRecDepth 100000 in
theorem dec_calls0 (A : Option Addr) (c : Nat) (l : List Int) (p : Bool) (r : ByteArray) (w : World) (hr : Kd.C (Kd.int .u8) w A l.length l) (hc : l.length ≤ c) (hl : l.length ≤ 60000) (hp : strings_HasPrefix.f (strOfNums l) (markB 0) = some p)
    (hread : ∀ (A1 : Option Addr) (c1 : Nat) (w1 : World), Kd.C (Kd.int .u8) w1 A1 (cutB 0 p l).length (cutB 0 p l) → (cutB 0 p l).length ≤ c1 → Calls Try.prog 37 #[.agg #[], .slice A1 (cutB 0 p l).length c1] w1 fun e w' => e = .returned (.string r) ∧ Below w1.heap.size w1 w') :
    Calls Try.prog 14 #[.slice A l.length c, .int .i64 0] w fun e w' => e = .returned (.string r) ∧ Below w.heap.size w w' := by
  have HB := Aside0.mk (Below.refl w.heap.size w)
  have HR := Aside0.mk hr
  have HC := Aside0.mk hc
  have HP := Aside0.mk hp
  have HRD := Aside0.mk hread
  have l1 : decide (60000 < (l.length : Int)) = false := decide_eq_false (by omega)
  have l2 : decide (60000 < l.length) = false := decide_eq_false (by omega)
  have hmf : ∀ (fn : Fn) (first cap : Array Value) (w : World), (Instr.makeFunc fn first cap).run Try.prog w = .ok (.func fn first cap) w := fun _ _ _ _ => rfl
  clear hr hc hp hl hread
  go_enter Try.func14, Try.ntmps14
  go_wp2_with (first | (go_at_call 40; refine (cod_calls0 w).mono ?_; rintro e w1 ⟨rfl, hb⟩; simp only [codV]; have HB1 := Aside0.mk hb; clear hb HB) | (go_at_call 41; refine (bare_calls0 A c l p w1 (Kd.C_below HR.out HB1.out) HC.out HP.out (fun h => pre_le (by rw [← h]; exact HP.out))).mono ?_; rintro e w2 ⟨hb, A1, c1, rfl, hr2, hc2⟩; have HB2 := Aside0.mk (below_step HB1.out hb); have HR2 := Aside0.mk (Kd.C_below hr2 hb); have HC2 := Aside0.mk hc2; clear hb hr2 hc2) | (go_at_call 37; refine (HRD.out A1 c1 w2 HR2.out HC2.out).mono ?_; rintro e w' ⟨rfl, hb⟩; have HB3 := Aside0.mk (below_step HB2.out hb); clear hb))
  all_goals (go_ret; exact ⟨rfl, HB3.out⟩)
set_option maxHeartbeats 4000000 in
set_option maxRecDepth 100000 in
theorem dec_long0 (A : Option Addr) (c : Nat) (l : List Int) (w : World) (hl : ¬ l.length ≤ 60000) :
    Calls Try.prog 14 #[.slice A l.length c, .int .i64 0] w fun e w' => e = .returned (.string ⟨#[]⟩) ∧ Below w.heap.size w w' := by
  have HB := Aside0.mk (Below.refl w.heap.size w)
  have l1 : decide (60000 < (l.length : Int)) = true := decide_eq_true (by omega)
  have l2 : decide (60000 < l.length) = true := decide_eq_true (by omega)
  clear hl
  go_enter Try.func14, Try.ntmps14
  go_wp2_with (first | (go_at_call 40; refine (cod_calls0 w).mono ?_; rintro e w1 ⟨rfl, hb⟩; simp only [codV]; have HB1 := Aside0.mk hb; clear hb HB))
  go_ret
  exact ⟨rfl, HB1.out⟩
set_option maxHeartbeats 4000000 in
set_option maxRecDepth 100000 in
theorem dec_calls1 (A : Option Addr) (c : Nat) (l : List Int) (p : Bool) (r : ByteArray) (w : World) (hr : Kd.C (Kd.int .u8) w A l.length l) (hc : l.length ≤ c) (hl : l.length ≤ 60000) (hp : strings_HasPrefix.f (strOfNums l) (markB 1) = some p)
    (hread : ∀ (A1 : Option Addr) (c1 : Nat) (w1 : World), Kd.C (Kd.int .u8) w1 A1 (cutB 1 p l).length (cutB 1 p l) → (cutB 1 p l).length ≤ c1 → Calls Try.prog 97 #[.agg #[.bool false], .slice A1 (cutB 1 p l).length c1] w1 fun e w' => e = .returned (.string r) ∧ Below w1.heap.size w1 w') :
    Calls Try.prog 14 #[.slice A l.length c, .int .i64 1] w fun e w' => e = .returned (.string r) ∧ Below w.heap.size w w' := by
  have HB := Aside0.mk (Below.refl w.heap.size w)
  have HR := Aside0.mk hr
  have HC := Aside0.mk hc
  have HP := Aside0.mk hp
  have HRD := Aside0.mk hread
  have l1 : decide (60000 < (l.length : Int)) = false := decide_eq_false (by omega)
  have l2 : decide (60000 < l.length) = false := decide_eq_false (by omega)
  have hmf : ∀ (fn : Fn) (first cap : Array Value) (w : World), (Instr.makeFunc fn first cap).run Try.prog w = .ok (.func fn first cap) w := fun _ _ _ _ => rfl
  clear hr hc hp hl hread
  go_enter Try.func14, Try.ntmps14
  go_wp2_with (first | (go_at_call 40; refine (cod_calls1 w).mono ?_; rintro e w1 ⟨rfl, hb⟩; simp only [codV]; have HB1 := Aside0.mk hb; clear hb HB) | (go_at_call 41; refine (bare_calls1 A c l p w1 (Kd.C_below HR.out HB1.out) HC.out HP.out (fun h => pre_le (by rw [← h]; exact HP.out))).mono ?_; rintro e w2 ⟨hb, A1, c1, rfl, hr2, hc2⟩; have HB2 := Aside0.mk (below_step HB1.out hb); have HR2 := Aside0.mk (Kd.C_below hr2 hb); have HC2 := Aside0.mk hc2; clear hb hr2 hc2) | (go_at_call 97; refine (HRD.out A1 c1 w2 HR2.out HC2.out).mono ?_; rintro e w' ⟨rfl, hb⟩; have HB3 := Aside0.mk (below_step HB2.out hb); clear hb))
  all_goals (go_ret; exact ⟨rfl, HB3.out⟩)
set_option maxHeartbeats 4000000 in
set_option maxRecDepth 100000 in
theorem dec_long1 (A : Option Addr) (c : Nat) (l : List Int) (w : World) (hl : ¬ l.length ≤ 60000) :
    Calls Try.prog 14 #[.slice A l.length c, .int .i64 1] w fun e w' => e = .returned (.string ⟨#[]⟩) ∧ Below w.heap.size w w' := by
  have HB := Aside0.mk (Below.refl w.heap.size w)
  have l1 : decide (60000 < (l.length : Int)) = true := decide_eq_true (by omega)
  have l2 : decide (60000 < l.length) = true := decide_eq_true (by omega)
  clear hl
  go_enter Try.func14, Try.ntmps14
  go_wp2_with (first | (go_at_call 40; refine (cod_calls1 w).mono ?_; rintro e w1 ⟨rfl, hb⟩; simp only [codV]; have HB1 := Aside0.mk hb; clear hb HB))
  go_ret
  exact ⟨rfl, HB1.out⟩
set_option maxHeartbeats 4000000 in
set_option maxRecDepth 100000 in
theorem dec_calls2 (A : Option Addr) (c : Nat) (l : List Int) (p : Bool) (r : ByteArray) (w : World) (hr : Kd.C (Kd.int .u8) w A l.length l) (hc : l.length ≤ c) (hl : l.length ≤ 60000) (hp : strings_HasPrefix.f (strOfNums l) (markB 2) = some p)
    (hread : ∀ (A1 : Option Addr) (c1 : Nat) (w1 : World), Kd.C (Kd.int .u8) w1 A1 (cutB 2 p l).length (cutB 2 p l) → (cutB 2 p l).length ≤ c1 → Calls Try.prog 97 #[.agg #[.bool true], .slice A1 (cutB 2 p l).length c1] w1 fun e w' => e = .returned (.string r) ∧ Below w1.heap.size w1 w') :
    Calls Try.prog 14 #[.slice A l.length c, .int .i64 2] w fun e w' => e = .returned (.string r) ∧ Below w.heap.size w w' := by
  have HB := Aside0.mk (Below.refl w.heap.size w)
  have HR := Aside0.mk hr
  have HC := Aside0.mk hc
  have HP := Aside0.mk hp
  have HRD := Aside0.mk hread
  have l1 : decide (60000 < (l.length : Int)) = false := decide_eq_false (by omega)
  have l2 : decide (60000 < l.length) = false := decide_eq_false (by omega)
  have hmf : ∀ (fn : Fn) (first cap : Array Value) (w : World), (Instr.makeFunc fn first cap).run Try.prog w = .ok (.func fn first cap) w := fun _ _ _ _ => rfl
  clear hr hc hp hl hread
  go_enter Try.func14, Try.ntmps14
  go_wp2_with (first | (go_at_call 40; refine (cod_calls2 w).mono ?_; rintro e w1 ⟨rfl, hb⟩; simp only [codV]; have HB1 := Aside0.mk hb; clear hb HB) | (go_at_call 41; refine (bare_calls2 A c l p w1 (Kd.C_below HR.out HB1.out) HC.out HP.out (fun h => pre_le (by rw [← h]; exact HP.out))).mono ?_; rintro e w2 ⟨hb, A1, c1, rfl, hr2, hc2⟩; have HB2 := Aside0.mk (below_step HB1.out hb); have HR2 := Aside0.mk (Kd.C_below hr2 hb); have HC2 := Aside0.mk hc2; clear hb hr2 hc2) | (go_at_call 97; refine (HRD.out A1 c1 w2 HR2.out HC2.out).mono ?_; rintro e w' ⟨rfl, hb⟩; have HB3 := Aside0.mk (below_step HB2.out hb); clear hb))
  all_goals (go_ret; exact ⟨rfl, HB3.out⟩)
set_option maxHeartbeats 4000000 in
set_option maxRecDepth 100000 in
theorem dec_long2 (A : Option Addr) (c : Nat) (l : List Int) (w : World) (hl : ¬ l.length ≤ 60000) :
    Calls Try.prog 14 #[.slice A l.length c, .int .i64 2] w fun e w' => e = .returned (.string ⟨#[]⟩) ∧ Below w.heap.size w w' := by
  have HB := Aside0.mk (Below.refl w.heap.size w)
  have l1 : decide (60000 < (l.length : Int)) = true := decide_eq_true (by omega)
  have l2 : decide (60000 < l.length) = true := decide_eq_true (by omega)
  clear hl
  go_enter Try.func14, Try.ntmps14
  go_wp2_with (first | (go_at_call 40; refine (cod_calls2 w).mono ?_; rintro e w1 ⟨rfl, hb⟩; simp only [codV]; have HB1 := Aside0.mk hb; clear hb HB))
  go_ret
  exact ⟨rfl, HB1.out⟩
set_option maxHeartbeats 4000000 in
set_option maxRecDepth 100000 in
theorem dec_calls3 (A : Option Addr) (c : Nat) (l : List Int) (p : Bool) (r : ByteArray) (w : World) (hr : Kd.C (Kd.int .u8) w A l.length l) (hc : l.length ≤ c) (hl : l.length ≤ 60000) (hp : strings_HasPrefix.f (strOfNums l) (markB 3) = some p)
    (hread : ∀ (A1 : Option Addr) (c1 : Nat) (w1 : World), Kd.C (Kd.int .u8) w1 A1 (cutB 3 p l).length (cutB 3 p l) → (cutB 3 p l).length ≤ c1 → Calls Try.prog 103 #[.agg #[], .slice A1 (cutB 3 p l).length c1] w1 fun e w' => e = .returned (.string r) ∧ Below w1.heap.size w1 w') :
    Calls Try.prog 14 #[.slice A l.length c, .int .i64 3] w fun e w' => e = .returned (.string r) ∧ Below w.heap.size w w' := by
  have HB := Aside0.mk (Below.refl w.heap.size w)
  have HR := Aside0.mk hr
  have HC := Aside0.mk hc
  have HP := Aside0.mk hp
  have HRD := Aside0.mk hread
  have l1 : decide (60000 < (l.length : Int)) = false := decide_eq_false (by omega)
  have l2 : decide (60000 < l.length) = false := decide_eq_false (by omega)
  have hmf : ∀ (fn : Fn) (first cap : Array Value) (w : World), (Instr.makeFunc fn first cap).run Try.prog w = .ok (.func fn first cap) w := fun _ _ _ _ => rfl
  clear hr hc hp hl hread
  go_enter Try.func14, Try.ntmps14
  go_wp2_with (first | (go_at_call 40; refine (cod_calls3 w).mono ?_; rintro e w1 ⟨rfl, hb⟩; simp only [codV]; have HB1 := Aside0.mk hb; clear hb HB) | (go_at_call 41; refine (bare_calls3 A c l p w1 (Kd.C_below HR.out HB1.out) HC.out HP.out (fun h => pre_le (by rw [← h]; exact HP.out))).mono ?_; rintro e w2 ⟨hb, A1, c1, rfl, hr2, hc2⟩; have HB2 := Aside0.mk (below_step HB1.out hb); have HR2 := Aside0.mk (Kd.C_below hr2 hb); have HC2 := Aside0.mk hc2; clear hb hr2 hc2) | (go_at_call 103; refine (HRD.out A1 c1 w2 HR2.out HC2.out).mono ?_; rintro e w' ⟨rfl, hb⟩; have HB3 := Aside0.mk (below_step HB2.out hb); clear hb))
  all_goals (go_ret; exact ⟨rfl, HB3.out⟩)
set_option maxHeartbeats 4000000 in
set_option maxRecDepth 100000 in
theorem dec_long3 (A : Option Addr) (c : Nat) (l : List Int) (w : World) (hl : ¬ l.length ≤ 60000) :
    Calls Try.prog 14 #[.slice A l.length c, .int .i64 3] w fun e w' => e = .returned (.string ⟨#[]⟩) ∧ Below w.heap.size w w' := by
  have HB := Aside0.mk (Below.refl w.heap.size w)
  have l1 : decide (60000 < (l.length : Int)) = true := decide_eq_true (by omega)
  have l2 : decide (60000 < l.length) = true := decide_eq_true (by omega)
  clear hl
  go_enter Try.func14, Try.ntmps14
  go_wp2_with (first | (go_at_call 40; refine (cod_calls3 w).mono ?_; rintro e w1 ⟨rfl, hb⟩; simp only [codV]; have HB1 := Aside0.mk hb; clear hb HB))
  go_ret
  exact ⟨rfl, HB1.out⟩
set_option maxHeartbeats 4000000 in
set_option maxRecDepth 100000 in
theorem dec_none (A : Option Addr) (c : Nat) (l : List Int) (a : Int) (w : World) (h0 : a ≠ 0) (h1 : a ≠ 1) (h2 : a ≠ 2) (h3 : a ≠ 3) :
    Calls Try.prog 14 #[.slice A l.length c, .int .i64 a] w fun e w' => e = .returned (.string ⟨#[]⟩) ∧ Below w.heap.size w w' := by
  have HN := Aside0.mk (cod_callsN a w h0 h1 h2 h3)
  clear h0 h1 h2 h3
  go_enter Try.func14, Try.ntmps14
  go_wp2_with (first | (go_at_call 40; refine HN.out.mono ?_; rintro e w1 ⟨rfl, hb⟩; have HB1 := Aside0.mk hb; clear hb))
  go_ret
  exact ⟨rfl, HB1.out⟩
def readK (k e : Nat) (l : List Int) : Option ByteArray := match e with
  | 0 => some (strOfNums (rdU l.length l))
  | 1 => impl_pairCoding_read.f k false l
  | 2 => impl_pairCoding_read.f k true l
  | _ => some (strOfNums (encU l))
theorem readK_mono (k e : Nat) (l : List Int) : LeO (readK k e l) (readK (k + 1) e l) := by
  unfold readK
  split
  · exact LeO.refl _
  · exact impl_pairCoding_read.mono false l k
  · exact impl_pairCoding_read.mono true l k
  · exact LeO.refl _
def bytesOk (l : List Int) : Bool := l.all fun x => decide (0 ≤ x) && decide (x ≤ 255)
theorem bytesOk_all {l : List Int} (h : bytesOk l = true) : ∀ x ∈ l, 0 ≤ x ∧ x ≤ 255 := by
  intro x hx
  have := List.all_eq_true.1 h x hx
  simpa using this
theorem cutB_all {l : List Int} (e : Nat) (p : Bool) (h : ∀ x ∈ l, 0 ≤ x ∧ x ≤ 255) : ∀ x ∈ cutB e p l, 0 ≤ x ∧ x ≤ 255 := by
  unfold cutB
  split
  · exact fun x hx => h x (List.mem_of_mem_drop hx)
  · exact h
theorem cutB_len {l : List Int} (e : Nat) (p : Bool) : (cutB e p l).length ≤ l.length := by
  unfold cutB
  split
  · rw [List.length_drop]; omega
  · exact Nat.le_refl _
theorem u8_V {A : Option Addr} {c : Nat} {l : List Int} {w : World} (hr : Kd.C (Kd.int .u8) w A l.length l) (hc : l.length ≤ c) : Kd.V (Kd.int .u8) 5 w w.heap.size (fun k => k < w.heap.size) (.slice A l.length c) l := Kd.V_mk hc (Kd.C_F (Kd.heap_int .u8) hr)
def impl_Decode.f (k : Nat) (l0 : List Int) (a1 : Int) : Option ByteArray :=
  if bytesOk l0 = true then
    (if a1 = 0 ∨ a1 = 1 ∨ a1 = 2 ∨ a1 = 3 then
      (if l0.length ≤ 60000 then (strings_HasPrefix.f (strOfNums l0) (markB a1.toNat)).bind fun p => readK k a1.toNat (cutB a1.toNat p l0) else some ⟨#[]⟩)
    else some ⟨#[]⟩)
  else none
theorem impl_Decode.mono : ∀ a0 a1 k, LeO (impl_Decode.f k a0 a1) (impl_Decode.f (k + 1) a0 a1) := by
  intro a0 a1 k
  unfold impl_Decode.f
  refine LeO.ite (LeO.ite (LeO.ite (LeO.bind (LeO.refl _) fun p => readK_mono k _ _) (LeO.refl _)) (LeO.refl _)) (LeO.refl _)
theorem impl_Decode.calls (k : Nat) (A0 : Option Addr) (c0 : Nat) (l0 : List Int) (a1 : Int) (r : ByteArray) (w : World) (hr0 : Kd.C (Kd.int .u8) w A0 l0.length l0) (hc0 : l0.length ≤ c0) (h : impl_Decode.f k l0 a1 = some r) :
    Calls Try.prog 14 #[.slice A0 l0.length c0, .int .i64 a1] w fun e w' => e = .returned (.string r) ∧ Below w.heap.size w w' := by
  unfold impl_Decode.f at h
  by_cases hb : bytesOk l0 = true
  · rw [if_pos hb] at h
    have hall := bytesOk_all hb
    by_cases ha : a1 = 0 ∨ a1 = 1 ∨ a1 = 2 ∨ a1 = 3
    · rw [if_pos ha] at h
      by_cases hl : l0.length ≤ 60000
      · rw [if_pos hl] at h
        obtain ⟨p, hp, h⟩ := Option.bind_eq_some_iff.1 h
        have hz := fun e => cutB_len (l := l0) e p
        rcases ha with rfl | rfl | rfl | rfl
        · refine dec_calls0 A0 c0 l0 p r w hr0 hc0 hl hp (fun A1 c1 w1 h1 h2 => ?_)
          obtain rfl := Option.some.inj h
          exact read_calls A1 c1 _ .nilIface w1 h1 h2 (by have := hz 0; omega) (cutB_all 0 p hall)
        · refine dec_calls1 A0 c0 l0 p r w hr0 hc0 hl hp (fun A1 c1 w1 h1 h2 => ?_)
          exact impl_pairCoding_read.calls k false (fun k => k < w1.heap.size) A1 c1 _ r w1 (u8_V h1 h2) h
        · refine dec_calls2 A0 c0 l0 p r w hr0 hc0 hl hp (fun A1 c1 w1 h1 h2 => ?_)
          exact impl_pairCoding_read.calls k true (fun k => k < w1.heap.size) A1 c1 _ r w1 (u8_V h1 h2) h
        · refine dec_calls3 A0 c0 l0 p r w hr0 hc0 hl hp (fun A1 c1 w1 h1 h2 => ?_)
          obtain rfl := Option.some.inj h
          exact latin_calls A1 c1 _ w1 h1 h2 (by have := hz 3; omega) (cutB_all 3 p hall)
      · rw [if_neg hl] at h
        obtain rfl := Option.some.inj h
        rcases ha with rfl | rfl | rfl | rfl
        · exact dec_long0 A0 c0 l0 w hl
        · exact dec_long1 A0 c0 l0 w hl
        · exact dec_long2 A0 c0 l0 w hl
        · exact dec_long3 A0 c0 l0 w hl
    · rw [if_neg ha] at h
      obtain rfl := Option.some.inj h
      exact dec_none A0 c0 l0 a1 w (fun z => ha (.inl z)) (fun z => ha (.inr (.inl z))) (fun z => ha (.inr (.inr (.inl z)))) (fun z => ha (.inr (.inr (.inr z))))
  · rw [if_neg hb] at h
    cases h

/-! ### spec_DrawNewlines: function 15 -/
def spec_DrawNewlines.l0 : Nat → List Int → Int → Int → List Int → Int → Int → Option (ByteArray)
  | 0, _, _, _, _, _, _ => none
  | k + 1, x4, x5, x6, x306000, x306001, x306002 => if x6 < x5 then ((some (([13, 10, 0, 97, 13, 32] : List Int) : List Int)).bind fun y310 => ((spec_l1Below.f x306000 x306001 x306002 6).bind fun bt313 => (if 0 ≤ bt313.1 then (if bt313.1 < (y310.length : Int) then (if x4.length < 140737488355328 then (spec_DrawNewlines.l0 k (x4 ++ [rd y310 bt313.1]) x5 (wrap64 (x6 + 1)) x306000 bt313.2.1 bt313.2.2) else (none)) else (none)) else (none)))) else (some (strOfNums x4))
def spec_DrawNewlines.f (k : Nat) (l0 : List Int) : Option (ByteArray) := (spec_l1New.f k l0).bind fun bt302 => ((spec_l1Size.f l0 80).bind fun t309 => (spec_DrawNewlines.l0 k (([] : List Int)) t309 0 bt302.1 bt302.2.1 bt302.2.2))
theorem spec_DrawNewlines.mono_l : ∀ k, (∀ y0 y1 y2 y3 y4 y5, LeO (spec_DrawNewlines.l0 k y0 y1 y2 y3 y4 y5) (spec_DrawNewlines.l0 (k + 1) y0 y1 y2 y3 y4 y5))
  | 0 => fun _ _ _ _ _ _ r h => by simp [spec_DrawNewlines.l0] at h
  | k + 1 => by
    have ih0 := spec_DrawNewlines.mono_l k
    · intro y0 y1 y2 y3 y4 y5
      unfold spec_DrawNewlines.l0
      repeat' first
      | (with_reducible exact ih0 _ _ _ _ _ _)
      | (with_reducible exact spec_l1New.mono _ _)
      | (with_reducible exact LeO.refl _)
      | (with_reducible exact LeO.none _)
      | (with_reducible refine LeO.ite ?_ ?_)
      | (with_reducible refine LeO.bind ?_ (fun _ => ?_))
      | exact ih0 _ _ _ _ _ _
      | exact spec_l1New.mono _ _
      | exact LeO.none _
      | refine LeO.ite ?_ ?_
      | refine LeO.bind ?_ (fun _ => ?_)
theorem spec_DrawNewlines.mono : ∀ a0 k, LeO (spec_DrawNewlines.f k a0) (spec_DrawNewlines.f (k + 1) a0) := by
  intro a0 k
  have ih0 := spec_DrawNewlines.mono_l k
  unfold spec_DrawNewlines.f
  repeat' first
      | (with_reducible exact ih0 _ _ _ _ _ _)
      | (with_reducible exact spec_l1New.mono _ _)
      | (with_reducible exact LeO.refl _)
      | (with_reducible exact LeO.none _)
      | (with_reducible refine LeO.ite ?_ ?_)
      | (with_reducible refine LeO.bind ?_ (fun _ => ?_))
      | exact ih0 _ _ _ _ _ _
      | exact spec_l1New.mono _ _
      | exact LeO.none _
      | refine LeO.ite ?_ ?_
      | refine LeO.bind ?_ (fun _ => ?_)
set_option maxHeartbeats 8000000 in
set_option maxRecDepth 100000 in
theorem spec_DrawNewlines.calls (k : Nat) (A0 : Option Addr) (c0 : Nat) (l0 : List Int) (r : ByteArray) (w : World) (hr0 : Kd.C (Kd.int .u8) w A0 l0.length l0) (hc0 : l0.length ≤ c0) (h : spec_DrawNewlines.f k l0 = some r) :
    Calls Try.prog 15 #[.slice A0 l0.length c0] w fun e w' => e = .returned (.string r) ∧ Below w.heap.size w w' := by
  have HR0 := Aside0.mk hr0
  have HC0 := Aside0.mk hc0
  clear hr0 hc0
  have HB := Aside0.mk (Below.refl w.heap.size w)
  have H : ((spec_l1New.f k l0).bind fun bt302 => ((spec_l1Size.f l0 80).bind fun t309 => (spec_DrawNewlines.l0 k (([] : List Int)) t309 0 bt302.1 bt302.2.1 bt302.2.2))) = some r := h
  clear h
  replace H := Option.bind_eq_some_iff.mp H
  obtain ⟨⟨t302, t303, t304⟩, A20, H⟩ := H
  replace H : ((spec_l1Size.f l0 80).bind fun t309 => (spec_DrawNewlines.l0 k (([] : List Int)) t309 0 t302 t303 t304)) = some r := H
  have A2 := Aside0.mk A20
  clear A20
  obtain ⟨y306, hy306⟩ : ∃ y_ : List Int, y_ = (([] : List Int)) := ⟨_, rfl⟩
  replace H : ((spec_l1Size.f l0 80).bind fun t309 => (spec_DrawNewlines.l0 k y306 t309 0 t302 t303 t304)) = some r := by first | (rw [hy306]; with_reducible exact H) | (have H2_ := (Option.bind_some _ _).symm.trans H; rw [hy306]; with_reducible exact H2_) | (have H2_ := (Option.bind_some _ _).symm.trans H; with_reducible exact H2_) | with_reducible exact H | (rw [hy306]; exact H) | exact H
  have Ny306 := Aside0.mk hy306
  clear hy306
  replace H := Option.bind_eq_some_iff.mp H
  obtain ⟨t309, A30, H⟩ := H
  replace H : (spec_DrawNewlines.l0 k y306 t309 0 t302 t303 t304) = some r := H
  have A3 := Aside0.mk A30
  clear A30
  have H' := Aside0.mk H
  clear H
  go_enter Try.func15, Try.ntmps15
  go_wp2_with (first | ((with_reducible refine gate_callee (f := 33) rfl ?_); refine goesL_ (some 8) rfl rfl Try.func33 (by kernel_rfl) rfl #[.slice A0 l0.length c0] rfl (by (try simp only [List.map_toArray, List.map_cons, List.map_nil]); first | done | rfl | (simp only [List.length_drop, List.length_take]; rfl)) ?_; (with_reducible refine (spec_l1New.calls k _ _ l0 t302 t303 t304 w _ ?side1 ?side2 ?side3 A2.out).mono ?_); (case side1 => repeat (first | (with_reducible first | exact HB.out | apply below_alloc | apply pw_below_drewN | apply below_drew1) | exact HB.out)); (case side2 => exact HR0.out); (case side3 => exact HC0.out); rintro e w4 ⟨g305, rfl, hi, hb, hb2⟩; refine ⟨_, rfl, ?_⟩; have n0_ := Aside0.mk (hb); have n1_ := Aside0.mk (hi); clear HB; have HB := n0_; have HI305 := n1_; clear n0_ n1_; (try clear hb); (try clear hb2); (try clear hk); (try clear hi)) | ((with_reducible refine gate_dst (N := 9) rfl ?_); refine Kd.R_lit (Kd.int .u8) _ 5 ?hg (N := 9) ?hd (xs := ([] : List Int)) (inner := []) (ok := fun _ => True) (okp := fun _ => True) ?hr ?hp (fun _ hk => hk) trivial (Below.refl _ _) (Nat.le_refl _) (by simp) ?_; (case hd => rfl); (case hg => rfl); (case hr => first | (go_simp; done) | (go_simp; rfl)); (case hp => exact (Reps.none _ _)); intro v307 w5 ho6 hb hg_ hnew_; clear hg_ hnew_; (first | rw [← Ny306.out] at ho6 | (simp only [Int.reduceToNat] at ho6; rw [← Ny306.out] at ho6)); have n0_ := Aside0.mk (Kd.R_lower ho6 (below_size (by repeat (first | (with_reducible first | exact HB.out | apply below_alloc | apply pw_below_drewN | apply below_drew1 | refine below_set ?_ (IsS69.ge HI305.out)) | exact HB.out)))); have n1_ := Aside0.mk (IsS69.below (by repeat (first | (with_reducible first | exact HI305.out | apply IsS69.alloc | apply IsS69.drewN | apply IsS69.drew | apply IsS69.set_1 | apply IsS69.set_2) | exact HI305.out)) hb); have n2_ := Aside0.mk (below_step (by repeat (first | (with_reducible first | exact HB.out | apply below_alloc | apply pw_below_drewN | apply below_drew1 | refine below_set ?_ (IsS69.ge HI305.out)) | exact HB.out)) hb); clear HI305; clear HB; have HO308 := n0_; have HI305 := n1_; have HB := n2_; clear n0_ n1_ n2_; clear hb ho6) | ((with_reducible refine gate_callee (f := 34) rfl ?_); refine goesL_ (some 11) rfl rfl Try.func34 (by kernel_rfl) rfl #[.slice A0 l0.length c0, .int .i64 80] rfl (by (try simp only [List.map_toArray, List.map_cons, List.map_nil]); first | done | rfl | (simp only [List.length_drop, List.length_take]; rfl)) ?_; (with_reducible refine (spec_l1Size.calls _ _ l0 80 t309 _ ?side1 ?side2 A3.out).mono ?_); (case side1 => repeat (first | exact (Kd.C_below HR0.out HB.out) | (with_reducible refine Kd.C_alloc ?_ _) | (with_reducible refine Kd.C_drewN ?_ _) | (with_reducible refine Kd.C_drew ?_))); (case side2 => exact HC0.out); rintro e w' ⟨rfl, ⟨nd, rfl⟩⟩; refine ⟨_, rfl, ?_⟩))
  go_loopg [4, 6] k (fun kq v4 v6 w' => ∃ (x4_1 : List Int) (x6_1 : Int) (x306001_1 : Int) (x306002_1 : Int), v6 = .int .i64 x6_1 ∧ Aside0 (spec_DrawNewlines.l0 kq x4_1 t309 x6_1 t302 x306001_1 x306002_1 = some r) ∧ Aside0 (kq ≤ k) ∧ Aside0 (Kd.R (Kd.int .u8) 5 w' w.heap.size (fun _ => True) v4 x4_1) ∧ Aside0 (IsS69 w w' g305 t302 x306001_1 x306002_1) ∧ Aside0 (Below w.heap.size w w'))
  case atStart => exact ⟨(y306), (0), (t303), (t304), (by first | rfl | (simp; done) | (simp [*]; done)), H', ⟨Nat.le_refl _⟩, ⟨by (with_reducible repeat (first | apply Kd.R_alloc | apply Kd.R_drewN | apply Kd.R_drew)); exact HO308.out⟩, ⟨by repeat (first | (with_reducible first | exact HI305.out | apply IsS69.alloc | apply IsS69.drewN | apply IsS69.drew | apply IsS69.set_1 | apply IsS69.set_2) | exact HI305.out)⟩, ⟨by repeat (first | (with_reducible first | exact HB.out | apply below_alloc | apply pw_below_drewN | apply below_drew1 | refine below_set ?_ (IsS69.ge HI305.out)) | exact HB.out)⟩⟩
  case round =>
    clear H'
    try clear c1
    try clear p2
    try clear c3
    obtain ⟨x4_1, x6_1, x306001_1, x306002_1, rfl, HA, HK1, HO_4, HI305, HB⟩ := hrel
    cases gk with
    | zero => exact absurd HA.out (by simp [spec_DrawNewlines.l0])
    | succ k1 =>
      have H := HA.out
      clear HA
      simp only [spec_DrawNewlines.l0] at H
      by_cases c7 : x6_1 < t309
      · rw [if_pos c7] at H
        have c7b0 : decide (x6_1 < t309) = true := decide_eq_true c7
        clear c7
        obtain ⟨y310, hy310⟩ : ∃ y_ : List Int, y_ = (([13, 10, 0, 97, 13, 32] : List Int)) := ⟨_, rfl⟩
        replace H : ((spec_l1Below.f t302 x306001_1 x306002_1 6).bind fun bt313 => (if 0 ≤ bt313.1 then (if bt313.1 < (y310.length : Int) then (if x4_1.length < 140737488355328 then (spec_DrawNewlines.l0 k1 (x4_1 ++ [rd y310 bt313.1]) t309 (wrap64 (x6_1 + 1)) t302 bt313.2.1 bt313.2.2) else (none)) else (none)) else (none))) = some r := by first | (rw [hy310]; with_reducible exact H) | (have H2_ := (Option.bind_some _ _).symm.trans H; rw [hy310]; with_reducible exact H2_) | (have H2_ := (Option.bind_some _ _).symm.trans H; with_reducible exact H2_) | with_reducible exact H | (rw [hy310]; exact H) | exact H
        have Ny310 := Aside0.mk hy310
        clear hy310
        replace H := Option.bind_eq_some_iff.mp H
        obtain ⟨⟨t313, t314, t315⟩, A80, H⟩ := H
        replace H : (if 0 ≤ t313 then (if t313 < (y310.length : Int) then (if x4_1.length < 140737488355328 then (spec_DrawNewlines.l0 k1 (x4_1 ++ [rd y310 t313]) t309 (wrap64 (x6_1 + 1)) t302 t314 t315) else (none)) else (none)) else (none)) = some r := H
        have A8 := Aside0.mk A80
        clear A80
        by_cases c9 : 0 ≤ t313
        · rw [if_pos c9] at H
          have c9b0 : decide (0 ≤ t313) = true := decide_eq_true c9
          clear c9
          by_cases c10 : t313 < (y310.length : Int)
          · rw [if_pos c10] at H
            have c10b0 : decide (t313 < (y310.length : Int)) = true := decide_eq_true c10
            clear c10
            by_cases c11 : x4_1.length < 140737488355328
            · rw [if_pos c11] at H
              have LMc11 := Aside0.mk c11
              clear c11
              obtain ⟨y317, hy317⟩ : ∃ y_ : List Int, y_ = (x4_1 ++ [rd y310 t313]) := ⟨_, rfl⟩
              replace H : (spec_DrawNewlines.l0 k1 y317 t309 (wrap64 (x6_1 + 1)) t302 t314 t315) = some r := by first | (rw [hy317]; with_reducible exact H) | (have H2_ := (Option.bind_some _ _).symm.trans H; rw [hy317]; with_reducible exact H2_) | (have H2_ := (Option.bind_some _ _).symm.trans H; with_reducible exact H2_) | with_reducible exact H | (rw [hy317]; exact H) | exact H
              have Ny317 := Aside0.mk hy317
              clear hy317
              have H' := Aside0.mk H
              clear H
              go_wp2_with (first | ((with_reducible refine gate_dst (N := 18) rfl ?_); refine Kd.R_lit (Kd.int .u8) _ 5 ?hg (N := 18) ?hd (xs := ([13, 10, 0, 97, 13, 32] : List Int)) (inner := [.int .u8 13, .int .u8 10, .int .u8 0, .int .u8 97, .int .u8 13, .int .u8 32]) (ok := fun _ => True) (okp := fun _ => True) ?hr ?hp (fun _ hk => hk) trivial (Below.refl _ _) (Nat.le_refl _) (by simp) ?_; (case hd => rfl); (case hg => rfl); (case hr => first | (go_simp; done) | (go_simp; rfl)); (case hp => exact (Reps.one (show Kd.M (Kd.int .u8) _ _ _ 13 [.int .u8 13] from rfl) (Reps.one (show Kd.M (Kd.int .u8) _ _ _ 10 [.int .u8 10] from rfl) (Reps.one (show Kd.M (Kd.int .u8) _ _ _ 0 [.int .u8 0] from rfl) (Reps.one (show Kd.M (Kd.int .u8) _ _ _ 97 [.int .u8 97] from rfl) (Reps.one (show Kd.M (Kd.int .u8) _ _ _ 13 [.int .u8 13] from rfl) (Reps.one (show Kd.M (Kd.int .u8) _ _ _ 32 [.int .u8 32] from rfl) (Reps.none _ _)))))))); intro v311 w12 ho13 hb hg_ hnew_; clear hg_ hnew_; (first | rw [← Ny310.out] at ho13 | (simp only [Int.reduceToNat] at ho13; rw [← Ny310.out] at ho13)); have n0_ := Aside0.mk (Kd.R_elder' (by (with_reducible repeat (first | apply Kd.R_alloc | apply Kd.R_drewN | apply Kd.R_drew)); exact HO_4.out) (Kd.R_base ho13) hb); have n1_ := Aside0.mk (Kd.R_lower (Kd.R_new' ho13 (Kd.R_lt (by (with_reducible repeat (first | apply Kd.R_alloc | apply Kd.R_drewN | apply Kd.R_drew)); exact HO_4.out))) (below_size (by repeat (first | (with_reducible first | exact HB.out | apply below_alloc | apply pw_below_drewN | apply below_drew1 | refine below_set ?_ (IsS69.ge HI305.out)) | exact HB.out)))); have n2_ := Aside0.mk (IsS69.below (by repeat (first | (with_reducible first | exact HI305.out | apply IsS69.alloc | apply IsS69.drewN | apply IsS69.drew | apply IsS69.set_1 | apply IsS69.set_2) | exact HI305.out)) hb); have n3_ := Aside0.mk (below_step (by repeat (first | (with_reducible first | exact HB.out | apply below_alloc | apply pw_below_drewN | apply below_drew1 | refine below_set ?_ (IsS69.ge HI305.out)) | exact HB.out)) hb); clear HO_4; clear HI305; clear HB; have HO_4 := n0_; have HO312 := n1_; have HI305 := n2_; have HB := n3_; clear n0_ n1_ n2_ n3_; clear hb ho13) | ((with_reducible refine gate_callee (f := 35) rfl ?_); refine goesL_ (some 20) rfl rfl Try.func35 (by kernel_rfl) rfl #[.pointer (some ⟨g305, 0, none⟩), .int .i64 6] rfl (by (try simp only [List.map_toArray, List.map_cons, List.map_nil]); first | done | rfl | (simp only [List.length_drop, List.length_take]; rfl)) ?_; (with_reducible refine (spec_l1Below.calls g305 t302 x306001_1 x306002_1 6 t313 t314 t315 w _ ?side1 ?side2 A8.out).mono ?_); (case side1 => repeat (first | (with_reducible first | exact HI305.out | apply IsS69.alloc | apply IsS69.drewN | apply IsS69.drew | apply IsS69.set_1 | apply IsS69.set_2) | exact HI305.out)); (case side2 => repeat (first | (with_reducible first | exact HB.out | apply below_alloc | apply pw_below_drewN | apply below_drew1 | refine below_set ?_ (IsS69.ge HI305.out)) | exact HB.out)); rintro e w14 ⟨rfl, hi, hb, hk⟩; refine ⟨_, rfl, ?_⟩; have n0_ := Aside0.mk (Kd.R_mono (Kd.R_keep (IsS69.apart (show IsS69 w _ g305 t302 x306001_1 x306002_1 from by repeat (first | (with_reducible first | exact HI305.out | apply IsS69.alloc | apply IsS69.drewN | apply IsS69.drew | apply IsS69.set_1 | apply IsS69.set_2) | exact HI305.out)) (by (with_reducible repeat (first | apply Kd.R_alloc | apply Kd.R_drewN | apply Kd.R_drew)); exact HO_4.out) (by decide)) hk (fun _ h => h.2)) (fun _ h => h.1)); have n1_ := Aside0.mk (Kd.R_mono (Kd.R_keep (IsS69.apart (show IsS69 w _ g305 t302 x306001_1 x306002_1 from by repeat (first | (with_reducible first | exact HI305.out | apply IsS69.alloc | apply IsS69.drewN | apply IsS69.drew | apply IsS69.set_1 | apply IsS69.set_2) | exact HI305.out)) (by (with_reducible repeat (first | apply Kd.R_alloc | apply Kd.R_drewN | apply Kd.R_drew)); exact HO312.out) (by decide)) hk (fun _ h => h.2)) (fun _ h => h.1)); have n2_ := Aside0.mk (hb); have n3_ := Aside0.mk (hi); clear HO_4; clear HO312; clear HB; clear HI305; have HO_4 := n0_; have HO312 := n1_; have HB := n2_; have HI305 := n3_; clear n0_ n1_ n2_ n3_; (try clear hb); (try clear hb2); (try clear hk); (try clear hi); obtain ⟨Ao15, co15, eo15⟩ := Kd.R_slice HO312.out; subst eo15; have p316 : 0 ≤ (t313 : Int) := of_decide_eq_true (by first | (with_reducible assumption) | assumption); have q316 : t313 < (y310.length : Int) := of_decide_eq_true (by first | (with_reducible assumption) | assumption); obtain ⟨ad316, e316, hx316_0⟩ := Kd.at_int (Kd.R_reads' HO312.out).2.2 t313 p316 q316; cases e316; replace p316 := eq_true p316; replace q316 := eq_true q316) | ((with_reducible refine gate_builtin (b := .append) (xs := #[.tmp 17, .tmp 23]) rfl ?_); at_builtin; refine Kd.R_append (Kd.int .u8) (w0 := w) w.heap.size rfl (.tmp 17) (.tmp 23) 22 5 (.int .u8 0) 1 rfl Try.underlying22 info5 rfl (by decide) (by omega) u4 x4_1 (rd y310 t313) [.int .u8 (rd y310 t313)] (fun k_ => some k_ ≠ (.slice (some ad316) y310.length co15 : Value).ownBlock) (fun _ => False) rfl rfl ?aP (fun _ hk => hk.elim) ?aF ?aO ?aB ?aS ?aL ?_; (case aP => exact rfl); (case aB => exact (by repeat (first | (with_reducible first | exact HB.out | apply below_alloc | apply pw_below_drewN | apply below_drew1 | refine below_set ?_ (IsS69.ge HI305.out)) | exact HB.out))); (case aF => exact (fun k_ hk => Kd.fresh' (Kd.R_lt (by (with_reducible repeat (first | apply Kd.R_alloc | apply Kd.R_drewN | apply Kd.R_drew)); exact HO312.out)) k_ hk)); (case aO => exact (by (with_reducible repeat (first | apply Kd.R_alloc | apply Kd.R_drewN | apply Kd.R_drew)); exact Kd.R_mono HO_4.out (fun _ hk => hk.2))); (case aS => exact (below_size (by repeat (first | (with_reducible first | exact HB.out | apply below_alloc | apply pw_below_drewN | apply below_drew1 | refine below_set ?_ (IsS69.ge HI305.out)) | exact HB.out)))); (case aL => have := LMc11.out; omega); intro v318 w16 ho hb hg hat; rw [← Ny317.out] at ho; have n0_ := Aside0.mk (IsS69.grown (IsS69.like HI305.out (by repeat (first | (with_reducible first | exact HI305.out | apply IsS69.alloc | apply IsS69.drewN | apply IsS69.drew | apply IsS69.set_1 | apply IsS69.set_2) | exact HI305.out))) hg (IsS69.own_ne HI305.out HO_4.out (by decide))); have n1_ := Aside0.mk (Kd.R_after (ok := (fun _ => True)) (by (with_reducible repeat (first | apply Kd.R_alloc | apply Kd.R_drewN | apply Kd.R_drew)); exact HO312.out) hg hat); have n2_ := Aside0.mk (hb); have n3_ := Aside0.mk (ho); clear HI305; clear HO312; clear HB; clear HO_4; have HI305 := n0_; have HO312 := n1_; have HB := n2_; have HO319 := n3_; clear n0_ n1_ n2_ n3_; clear ho hb hg hat))
              go_roundg k1
              case measure => have := HK1.out; omega
              case rel => exact ⟨(y317), (wrap64 (x6_1 + 1)), (t314), (t315), (by first | rfl | (simp; done) | (simp [*]; done)), H', ⟨by have := HK1.out; omega⟩, ⟨by (with_reducible repeat (first | apply Kd.R_alloc | apply Kd.R_drewN | apply Kd.R_drew)); exact Kd.R_mono HO319.out (fun _ hk => trivial)⟩, ⟨by repeat (first | (with_reducible first | exact HI305.out | apply IsS69.alloc | apply IsS69.drewN | apply IsS69.drew | apply IsS69.set_1 | apply IsS69.set_2) | exact HI305.out)⟩, ⟨by repeat (first | (with_reducible first | exact HB.out | apply below_alloc | apply pw_below_drewN | apply below_drew1 | refine below_set ?_ (IsS69.ge HI305.out)) | exact HB.out)⟩⟩
            · rw [if_neg c11] at H
              exact absurd H (by simp)
          · rw [if_neg c10] at H
            exact absurd H (by simp)
        · rw [if_neg c9] at H
          exact absurd H (by simp)
      · rw [if_neg c7] at H
        have c7b0 : decide (x6_1 < t309) = false := decide_eq_false c7
        clear c7
        obtain rfl := Option.some.inj H
        have hcv17 := own_string (P := Try.prog) Try.underlying22 Try.underlying5 Try.underlying9 (Kd.own_of_R HO_4.out)
        go_wp2
        go_ret
        exact ⟨by first | rfl | (simp [errW_none, errW_some] <;> rfl) | (simp [*, errW_none, errW_some] <;> rfl), by repeat (first | (with_reducible first | exact HB.out | apply below_alloc | apply pw_below_drewN | apply below_drew1 | refine below_set ?_ (IsS69.ge HI305.out)) | exact HB.out)⟩

/-! ### impl_Newlines: function 16 -/
def impl_Newlines.l0 : Nat → ByteArray → List Int → Int → Option (ByteArray)
  | 0, _, _, _ => none
  | k + 1, x0, x3, x4 => if x4 < (x0.size : Int) then (if 0 ≤ x4 then (if (bt x0 x4) = 13 then (if (wrap64 (x4 + 1)) < (x0.size : Int) then (if 0 ≤ (wrap64 (x4 + 1)) then (if (bt x0 (wrap64 (x4 + 1))) = 10 then (if x3.length < 140737488355328 then (impl_Newlines.l0 k x0 (x3 ++ [10]) (wrap64 ((wrap64 (x4 + 1)) + 1))) else (none)) else (if x3.length < 140737488355328 then (impl_Newlines.l0 k x0 (x3 ++ [10]) (wrap64 (x4 + 1))) else (none))) else (none)) else (if x3.length < 140737488355328 then (impl_Newlines.l0 k x0 (x3 ++ [10]) (wrap64 (x4 + 1))) else (none))) else (if (bt x0 x4) = 0 then (if x3.length + 3 < 140737488355328 then (impl_Newlines.l0 k x0 (x3 ++ bytesOf (⟨#[239, 191, 189]⟩ : ByteArray)) (wrap64 (x4 + 1))) else (none)) else (if x3.length < 140737488355328 then (impl_Newlines.l0 k x0 (x3 ++ [bt x0 x4]) (wrap64 (x4 + 1))) else (none)))) else (none)) else (some (strOfNums x3))
def impl_Newlines.f (k : Nat) (a0 : ByteArray) : Option (ByteArray) := impl_Newlines.l0 k a0 (([] : List Int)) 0
theorem impl_Newlines.mono_l : ∀ k, (∀ y0 y1 y2, LeO (impl_Newlines.l0 k y0 y1 y2) (impl_Newlines.l0 (k + 1) y0 y1 y2))
  | 0 => fun _ _ _ r h => by simp [impl_Newlines.l0] at h
  | k + 1 => by
    have ih0 := impl_Newlines.mono_l k
    · intro y0 y1 y2
      unfold impl_Newlines.l0
      repeat' first
      | (with_reducible exact ih0 _ _ _)
      | (with_reducible exact LeO.refl _)
      | (with_reducible exact LeO.none _)
      | (with_reducible refine LeO.ite ?_ ?_)
      | (with_reducible refine LeO.bind ?_ (fun _ => ?_))
      | exact ih0 _ _ _
      | exact LeO.none _
      | refine LeO.ite ?_ ?_
      | refine LeO.bind ?_ (fun _ => ?_)
theorem impl_Newlines.mono : ∀ a0 k, LeO (impl_Newlines.f k a0) (impl_Newlines.f (k + 1) a0) := by
  intro a0 k
  have ih0 := impl_Newlines.mono_l k
  unfold impl_Newlines.f
  repeat' first
      | (with_reducible exact ih0 _ _ _)
      | (with_reducible exact LeO.refl _)
      | (with_reducible exact LeO.none _)
      | (with_reducible refine LeO.ite ?_ ?_)
      | (with_reducible refine LeO.bind ?_ (fun _ => ?_))
      | exact ih0 _ _ _
      | exact LeO.none _
      | refine LeO.ite ?_ ?_
      | refine LeO.bind ?_ (fun _ => ?_)
set_option maxHeartbeats 8000000 in
set_option maxRecDepth 100000 in
theorem impl_Newlines.calls (k : Nat) (a0 : ByteArray) (r : ByteArray) (w : World) (h : impl_Newlines.f k a0 = some r) :
    Calls Try.prog 16 #[.string a0] w fun e w' => e = .returned (.string r) ∧ Below w.heap.size w w' := by
  have HB := Aside0.mk (Below.refl w.heap.size w)
  have H : (impl_Newlines.l0 k a0 (([] : List Int)) 0) = some r := h
  clear h
  obtain ⟨y320, hy320⟩ : ∃ y_ : List Int, y_ = (([] : List Int)) := ⟨_, rfl⟩
  replace H : (impl_Newlines.l0 k a0 y320 0) = some r := by first | (rw [hy320]; with_reducible exact H) | (have H2_ := (Option.bind_some _ _).symm.trans H; rw [hy320]; with_reducible exact H2_) | (have H2_ := (Option.bind_some _ _).symm.trans H; with_reducible exact H2_) | with_reducible exact H | (rw [hy320]; exact H) | exact H
  have Ny320 := Aside0.mk hy320
  clear hy320
  have H' := Aside0.mk H
  clear H
  go_enter Try.func16, Try.ntmps16
  go_wp2_with (first | ((with_reducible refine gate_dst (N := 5) rfl ?_); refine Kd.R_lit (Kd.int .u8) _ 5 ?hg (N := 5) ?hd (xs := ([] : List Int)) (inner := []) (ok := fun _ => True) (okp := fun _ => True) ?hr ?hp (fun _ hk => hk) trivial (Below.refl _ _) (Nat.le_refl _) (by simp) ?_; (case hd => rfl); (case hg => rfl); (case hr => first | (go_simp; done) | (go_simp; rfl)); (case hp => exact (Reps.none _ _)); intro v321 w2 ho3 hb hg_ hnew_; clear hg_ hnew_; (first | rw [← Ny320.out] at ho3 | (simp only [Int.reduceToNat] at ho3; rw [← Ny320.out] at ho3)); have n0_ := Aside0.mk (Kd.R_lower ho3 (below_size (by repeat (first | (with_reducible first | exact HB.out | apply below_alloc | apply pw_below_drewN | apply below_drew1) | exact HB.out)))); have n1_ := Aside0.mk (below_step (by repeat (first | (with_reducible first | exact HB.out | apply below_alloc | apply pw_below_drewN | apply below_drew1) | exact HB.out)) hb); clear HB; have HO322 := n0_; have HB := n1_; clear n0_ n1_; clear hb ho3))
  go_loopg [3, 4] k (fun kq v3 v4 w' => ∃ (x3_1 : List Int) (x4_1 : Int), v4 = .int .i64 x4_1 ∧ Aside0 (impl_Newlines.l0 kq a0 x3_1 x4_1 = some r) ∧ Aside0 (kq ≤ k) ∧ Aside0 (Kd.R (Kd.int .u8) 5 w' w.heap.size (fun _ => True) v3 x3_1) ∧ Aside0 (Below w.heap.size w w'))
  case atStart => exact ⟨(y320), (0), (by first | rfl | (simp; done) | (simp [*]; done)), H', ⟨Nat.le_refl _⟩, ⟨by (with_reducible repeat (first | apply Kd.R_alloc | apply Kd.R_drewN | apply Kd.R_drew)); exact HO322.out⟩, ⟨by repeat (first | (with_reducible first | exact HB.out | apply below_alloc | apply pw_below_drewN | apply below_drew1) | exact HB.out)⟩⟩
  case round =>
    clear H'
    try clear c1
    try clear p2
    obtain ⟨x3_1, x4_1, rfl, HA, HK1, HO_3, HB⟩ := hrel
    cases gk with
    | zero => exact absurd HA.out (by simp [impl_Newlines.l0])
    | succ k1 =>
      have H := HA.out
      clear HA
      simp only [impl_Newlines.l0] at H
      by_cases c4 : x4_1 < (a0.size : Int)
      · rw [if_pos c4] at H
        have c4b0 : decide (x4_1 < (a0.size : Int)) = true := decide_eq_true c4
        clear c4
        by_cases c5 : 0 ≤ x4_1
        · rw [if_pos c5] at H
          have c5b0 : decide (0 ≤ x4_1) = true := decide_eq_true c5
          clear c5
          by_cases c7 : (bt a0 x4_1) = 13
          · rw [if_pos c7] at H
            have c7b0 : ((bt a0 x4_1) == 13) = true := beq_iff_eq.mpr c7
            have c7b1 : ((bt a0 x4_1) != 13) = false := bne_eq_false_iff_eq.mpr c7
            clear c7
            by_cases c8 : (wrap64 (x4_1 + 1)) < (a0.size : Int)
            · rw [if_pos c8] at H
              have c8b0 : decide ((wrap64 (x4_1 + 1)) < (a0.size : Int)) = true := decide_eq_true c8
              clear c8
              obtain ⟨ji9, hji9⟩ : ∃ j_ : Int, (wrap64 (x4_1 + 1)) = j_ := ⟨_, rfl⟩
              replace H : (if 0 ≤ (ji9) then (if (bt a0 (ji9)) = 10 then (if x3_1.length < 140737488355328 then (impl_Newlines.l0 k1 a0 (x3_1 ++ [10]) (wrap64 ((ji9) + 1))) else (none)) else (if x3_1.length < 140737488355328 then (impl_Newlines.l0 k1 a0 (x3_1 ++ [10]) ji9) else (none))) else (none)) = some r := by first | (rw [hji9] at H; exact H) | (simp only [hji9] at H ⊢; exact H)
              (try rw [hji9] at c8b0)
              have hji9w : (IntKind.i64.wrap (x4_1 + 1)) = ji9 := (i64_w _).trans hji9
              by_cases c10 : 0 ≤ (ji9)
              · rw [if_pos c10] at H
                have c10b0 : decide (0 ≤ (ji9)) = true := decide_eq_true c10
                clear c10
                by_cases c12 : (bt a0 (ji9)) = 10
                · rw [if_pos c12] at H
                  have c12b0 : ((bt a0 (ji9)) == 10) = true := beq_iff_eq.mpr c12
                  have c12b1 : ((bt a0 (ji9)) != 10) = false := bne_eq_false_iff_eq.mpr c12
                  clear c12
                  by_cases c13 : x3_1.length < 140737488355328
                  · rw [if_pos c13] at H
                    have LMc13 := Aside0.mk c13
                    clear c13
                    obtain ⟨y323, hy323⟩ : ∃ y_ : List Int, y_ = (x3_1 ++ [10]) := ⟨_, rfl⟩
                    replace H : (impl_Newlines.l0 k1 a0 y323 (wrap64 ((ji9) + 1))) = some r := by first | (rw [hy323]; with_reducible exact H) | (have H2_ := (Option.bind_some _ _).symm.trans H; rw [hy323]; with_reducible exact H2_) | (have H2_ := (Option.bind_some _ _).symm.trans H; with_reducible exact H2_) | with_reducible exact H | (rw [hy323]; exact H) | exact H
                    have Ny323 := Aside0.mk hy323
                    clear hy323
                    have H' := Aside0.mk H
                    clear H
                    have p6 : 0 ≤ (x4_1 : Int) := of_decide_eq_true (by first | (with_reducible assumption) | assumption)
                    have q6 : x4_1 < (a0.size : Int) := of_decide_eq_true (by first | (with_reducible assumption) | assumption)
                    have hx6 := bt_at a0 x4_1
                    replace p6 := eq_true p6
                    replace q6 := eq_true q6
                    have p11 : 0 ≤ ((ji9) : Int) := of_decide_eq_true (by first | (with_reducible assumption) | assumption)
                    have q11 : (ji9) < (a0.size : Int) := of_decide_eq_true (by first | (with_reducible assumption) | assumption)
                    have hx11 := bt_at a0 (ji9)
                    replace p11 := eq_true p11
                    replace q11 := eq_true q11
                    go_wp2_with (first | ((with_reducible refine gate_builtin (b := .append) (xs := #[.tmp 37, .tmp 38]) rfl ?_); at_builtin; refine Kd.R_append (Kd.int .u8) (w0 := w) w.heap.size rfl (.tmp 37) (.tmp 38) 22 5 (.int .u8 0) 1 rfl Try.underlying22 info5 rfl (by decide) (by omega) u3 x3_1 10 [.int .u8 10] (fun _ => True) (fun _ => False) rfl rfl ?aP (fun _ hk => hk.elim) ?aF ?aO ?aB ?aS ?aL ?_; (case aP => exact rfl); (case aB => exact (by repeat (first | (with_reducible first | exact HB.out | apply below_alloc | apply pw_below_drewN | apply below_drew1) | exact HB.out))); (case aF => exact (fun _ _ => trivial)); (case aO => exact (by (with_reducible repeat (first | apply Kd.R_alloc | apply Kd.R_drewN | apply Kd.R_drew)); exact HO_3.out)); (case aS => exact (below_size (by repeat (first | (with_reducible first | exact HB.out | apply below_alloc | apply pw_below_drewN | apply below_drew1) | exact HB.out)))); (case aL => have := LMc13.out; omega); intro v324 w14 ho hb hg hat; rw [← Ny323.out] at ho; have n0_ := Aside0.mk (hb); have n1_ := Aside0.mk (ho); clear HB; clear HO_3; have HB := n0_; have HO325 := n1_; clear n0_ n1_; clear ho hb hg hat))
                    go_roundg k1
                    case measure => have := HK1.out; omega
                    case rel => exact ⟨(y323), (wrap64 ((ji9) + 1)), (by first | rfl | (simp; done) | (simp only [← hji9] <;> (first | rfl | simp)) | (simp [*]; done)), H', ⟨by have := HK1.out; omega⟩, ⟨by (with_reducible repeat (first | apply Kd.R_alloc | apply Kd.R_drewN | apply Kd.R_drew)); exact HO325.out⟩, ⟨by repeat (first | (with_reducible first | exact HB.out | apply below_alloc | apply pw_below_drewN | apply below_drew1) | exact HB.out)⟩⟩
                  · rw [if_neg c13] at H
                    exact absurd H (by simp)
                · rw [if_neg c12] at H
                  have c12b0 : ((bt a0 (ji9)) == 10) = false := beq_eq_false_iff_ne.mpr c12
                  have c12b1 : ((bt a0 (ji9)) != 10) = true := bne_iff_ne.mpr c12
                  by_cases c15 : x3_1.length < 140737488355328
                  · rw [if_pos c15] at H
                    have LMc15 := Aside0.mk c15
                    clear c15
                    obtain ⟨y326, hy326⟩ : ∃ y_ : List Int, y_ = (x3_1 ++ [10]) := ⟨_, rfl⟩
                    replace H : (impl_Newlines.l0 k1 a0 y326 ji9) = some r := by first | (rw [hy326]; with_reducible exact H) | (have H2_ := (Option.bind_some _ _).symm.trans H; rw [hy326]; with_reducible exact H2_) | (have H2_ := (Option.bind_some _ _).symm.trans H; with_reducible exact H2_) | with_reducible exact H | (rw [hy326]; exact H) | exact H
                    have Ny326 := Aside0.mk hy326
                    clear hy326
                    have H' := Aside0.mk H
                    clear H
                    have p6 : 0 ≤ (x4_1 : Int) := of_decide_eq_true (by first | (with_reducible assumption) | assumption)
                    have q6 : x4_1 < (a0.size : Int) := of_decide_eq_true (by first | (with_reducible assumption) | assumption)
                    have hx6 := bt_at a0 x4_1
                    replace p6 := eq_true p6
                    replace q6 := eq_true q6
                    have p11 : 0 ≤ ((ji9) : Int) := of_decide_eq_true (by first | (with_reducible assumption) | assumption)
                    have q11 : (ji9) < (a0.size : Int) := of_decide_eq_true (by first | (with_reducible assumption) | assumption)
                    have hx11 := bt_at a0 (ji9)
                    replace p11 := eq_true p11
                    replace q11 := eq_true q11
                    go_wp2_with (first | ((with_reducible refine gate_builtin (b := .append) (xs := #[.tmp 37, .tmp 38]) rfl ?_); at_builtin; refine Kd.R_append (Kd.int .u8) (w0 := w) w.heap.size rfl (.tmp 37) (.tmp 38) 22 5 (.int .u8 0) 1 rfl Try.underlying22 info5 rfl (by decide) (by omega) u3 x3_1 10 [.int .u8 10] (fun _ => True) (fun _ => False) rfl rfl ?aP (fun _ hk => hk.elim) ?aF ?aO ?aB ?aS ?aL ?_; (case aP => exact rfl); (case aB => exact (by repeat (first | (with_reducible first | exact HB.out | apply below_alloc | apply pw_below_drewN | apply below_drew1) | exact HB.out))); (case aF => exact (fun _ _ => trivial)); (case aO => exact (by (with_reducible repeat (first | apply Kd.R_alloc | apply Kd.R_drewN | apply Kd.R_drew)); exact HO_3.out)); (case aS => exact (below_size (by repeat (first | (with_reducible first | exact HB.out | apply below_alloc | apply pw_below_drewN | apply below_drew1) | exact HB.out)))); (case aL => have := LMc15.out; omega); intro v327 w16 ho hb hg hat; rw [← Ny326.out] at ho; have n0_ := Aside0.mk (hb); have n1_ := Aside0.mk (ho); clear HB; clear HO_3; have HB := n0_; have HO328 := n1_; clear n0_ n1_; clear ho hb hg hat))
                    go_roundg k1
                    case measure => have := HK1.out; omega
                    case rel => exact ⟨(y326), (ji9), (by first | rfl | (simp; done) | (simp only [← hji9] <;> (first | rfl | simp)) | (simp [*]; done)), H', ⟨by have := HK1.out; omega⟩, ⟨by (with_reducible repeat (first | apply Kd.R_alloc | apply Kd.R_drewN | apply Kd.R_drew)); exact HO328.out⟩, ⟨by repeat (first | (with_reducible first | exact HB.out | apply below_alloc | apply pw_below_drewN | apply below_drew1) | exact HB.out)⟩⟩
                  · rw [if_neg c15] at H
                    exact absurd H (by simp)
              · rw [if_neg c10] at H
                exact absurd H (by simp)
            · rw [if_neg c8] at H
              have c8b0 : decide ((wrap64 (x4_1 + 1)) < (a0.size : Int)) = false := decide_eq_false c8
              clear c8
              by_cases c17 : x3_1.length < 140737488355328
              · rw [if_pos c17] at H
                have LMc17 := Aside0.mk c17
                clear c17
                obtain ⟨y329, hy329⟩ : ∃ y_ : List Int, y_ = (x3_1 ++ [10]) := ⟨_, rfl⟩
                replace H : (impl_Newlines.l0 k1 a0 y329 (wrap64 (x4_1 + 1))) = some r := by first | (rw [hy329]; with_reducible exact H) | (have H2_ := (Option.bind_some _ _).symm.trans H; rw [hy329]; with_reducible exact H2_) | (have H2_ := (Option.bind_some _ _).symm.trans H; with_reducible exact H2_) | with_reducible exact H | (rw [hy329]; exact H) | exact H
                have Ny329 := Aside0.mk hy329
                clear hy329
                have H' := Aside0.mk H
                clear H
                have p6 : 0 ≤ (x4_1 : Int) := of_decide_eq_true (by first | (with_reducible assumption) | assumption)
                have q6 : x4_1 < (a0.size : Int) := of_decide_eq_true (by first | (with_reducible assumption) | assumption)
                have hx6 := bt_at a0 x4_1
                replace p6 := eq_true p6
                replace q6 := eq_true q6
                go_wp2_with (first | ((with_reducible refine gate_builtin (b := .append) (xs := #[.tmp 37, .tmp 38]) rfl ?_); at_builtin; refine Kd.R_append (Kd.int .u8) (w0 := w) w.heap.size rfl (.tmp 37) (.tmp 38) 22 5 (.int .u8 0) 1 rfl Try.underlying22 info5 rfl (by decide) (by omega) u3 x3_1 10 [.int .u8 10] (fun _ => True) (fun _ => False) rfl rfl ?aP (fun _ hk => hk.elim) ?aF ?aO ?aB ?aS ?aL ?_; (case aP => exact rfl); (case aB => exact (by repeat (first | (with_reducible first | exact HB.out | apply below_alloc | apply pw_below_drewN | apply below_drew1) | exact HB.out))); (case aF => exact (fun _ _ => trivial)); (case aO => exact (by (with_reducible repeat (first | apply Kd.R_alloc | apply Kd.R_drewN | apply Kd.R_drew)); exact HO_3.out)); (case aS => exact (below_size (by repeat (first | (with_reducible first | exact HB.out | apply below_alloc | apply pw_below_drewN | apply below_drew1) | exact HB.out)))); (case aL => have := LMc17.out; omega); intro v330 w18 ho hb hg hat; rw [← Ny329.out] at ho; have n0_ := Aside0.mk (hb); have n1_ := Aside0.mk (ho); clear HB; clear HO_3; have HB := n0_; have HO331 := n1_; clear n0_ n1_; clear ho hb hg hat))
                go_roundg k1
                case measure => have := HK1.out; omega
                case rel => exact ⟨(y329), (wrap64 (x4_1 + 1)), (by first | rfl | (simp; done) | (simp [*]; done)), H', ⟨by have := HK1.out; omega⟩, ⟨by (with_reducible repeat (first | apply Kd.R_alloc | apply Kd.R_drewN | apply Kd.R_drew)); exact HO331.out⟩, ⟨by repeat (first | (with_reducible first | exact HB.out | apply below_alloc | apply pw_below_drewN | apply below_drew1) | exact HB.out)⟩⟩
              · rw [if_neg c17] at H
                exact absurd H (by simp)
          · rw [if_neg c7] at H
            have c7b0 : ((bt a0 x4_1) == 13) = false := beq_eq_false_iff_ne.mpr c7
            have c7b1 : ((bt a0 x4_1) != 13) = true := bne_iff_ne.mpr c7
            by_cases c19 : (bt a0 x4_1) = 0
            · rw [if_pos c19] at H
              have c19b0 : ((bt a0 x4_1) == 0) = true := beq_iff_eq.mpr c19
              have c19b1 : ((bt a0 x4_1) != 0) = false := bne_eq_false_iff_eq.mpr c19
              clear c19
              by_cases c20 : x3_1.length + 3 < 140737488355328
              · rw [if_pos c20] at H
                have LMc20 := Aside0.mk c20
                clear c20
                obtain ⟨y332, hy332⟩ : ∃ y_ : List Int, y_ = (x3_1 ++ bytesOf (⟨#[239, 191, 189]⟩ : ByteArray)) := ⟨_, rfl⟩
                replace H : (impl_Newlines.l0 k1 a0 y332 (wrap64 (x4_1 + 1))) = some r := by first | (rw [hy332]; with_reducible exact H) | (have H2_ := (Option.bind_some _ _).symm.trans H; rw [hy332]; with_reducible exact H2_) | (have H2_ := (Option.bind_some _ _).symm.trans H; with_reducible exact H2_) | with_reducible exact H | (rw [hy332]; exact H) | exact H
                have Ny332 := Aside0.mk hy332
                clear hy332
                have H' := Aside0.mk H
                clear H
                have p6 : 0 ≤ (x4_1 : Int) := of_decide_eq_true (by first | (with_reducible assumption) | assumption)
                have q6 : x4_1 < (a0.size : Int) := of_decide_eq_true (by first | (with_reducible assumption) | assumption)
                have hx6 := bt_at a0 x4_1
                replace p6 := eq_true p6
                replace q6 := eq_true q6
                go_wp2_with (first | (at_builtin; refine print_append_str (w0 := w) w.heap.size rfl (.tmp 42) _ 22 9 5 rfl Try.underlying22 Try.underlying9 info5 u3 x3_1 (⟨#[239, 191, 189]⟩ : ByteArray) rfl rfl ?aO ?aB ?aS ?aL ?_; (case aB => exact (by repeat (first | (with_reducible first | exact HB.out | apply below_alloc | apply pw_below_drewN | apply below_drew1) | exact HB.out))); (case aO => exact (Kd.own_of_R (by (with_reducible repeat (first | apply Kd.R_alloc | apply Kd.R_drewN | apply Kd.R_drew)); exact HO_3.out))); (case aS => exact (below_size (by repeat (first | (with_reducible first | exact HB.out | apply below_alloc | apply pw_below_drewN | apply below_drew1) | exact HB.out)))); (case aL => have := LMc20.out; first | omega | (change x3_1.length + 3 ≤ _; omega)); intro v333 w21 ho0 hb hg; have ho := Kd.R_of_own (h1 := fun _ => rfl) (ok := fun _ => True) ho0 (fun _ _ => trivial); clear ho0; have hat := True.intro; rw [← Ny332.out] at ho; change Kd.R (Kd.int .u8) 5 w21 w.heap.size (fun _ => True) v333 y332 at ho; have n0_ := Aside0.mk (hb); have n1_ := Aside0.mk (ho); clear HB; clear HO_3; have HB := n0_; have HO334 := n1_; clear n0_ n1_; clear ho hb hg hat))
                go_roundg k1
                case measure => have := HK1.out; omega
                case rel => exact ⟨(y332), (wrap64 (x4_1 + 1)), (by first | rfl | (simp; done) | (simp [*]; done)), H', ⟨by have := HK1.out; omega⟩, ⟨by (with_reducible repeat (first | apply Kd.R_alloc | apply Kd.R_drewN | apply Kd.R_drew)); exact HO334.out⟩, ⟨by repeat (first | (with_reducible first | exact HB.out | apply below_alloc | apply pw_below_drewN | apply below_drew1) | exact HB.out)⟩⟩
              · rw [if_neg c20] at H
                exact absurd H (by simp)
            · rw [if_neg c19] at H
              have c19b0 : ((bt a0 x4_1) == 0) = false := beq_eq_false_iff_ne.mpr c19
              have c19b1 : ((bt a0 x4_1) != 0) = true := bne_iff_ne.mpr c19
              by_cases c23 : x3_1.length < 140737488355328
              · rw [if_pos c23] at H
                have LMc23 := Aside0.mk c23
                clear c23
                obtain ⟨y335, hy335⟩ : ∃ y_ : List Int, y_ = (x3_1 ++ [bt a0 x4_1]) := ⟨_, rfl⟩
                replace H : (impl_Newlines.l0 k1 a0 y335 (wrap64 (x4_1 + 1))) = some r := by first | (rw [hy335]; with_reducible exact H) | (have H2_ := (Option.bind_some _ _).symm.trans H; rw [hy335]; with_reducible exact H2_) | (have H2_ := (Option.bind_some _ _).symm.trans H; with_reducible exact H2_) | with_reducible exact H | (rw [hy335]; exact H) | exact H
                have Ny335 := Aside0.mk hy335
                clear hy335
                have H' := Aside0.mk H
                clear H
                have p6 : 0 ≤ (x4_1 : Int) := of_decide_eq_true (by first | (with_reducible assumption) | assumption)
                have q6 : x4_1 < (a0.size : Int) := of_decide_eq_true (by first | (with_reducible assumption) | assumption)
                have hx6 := bt_at a0 x4_1
                replace p6 := eq_true p6
                replace q6 := eq_true q6
                have p22 : 0 ≤ (x4_1 : Int) := of_decide_eq_true (by first | (with_reducible assumption) | assumption)
                have q22 : x4_1 < (a0.size : Int) := of_decide_eq_true (by first | (with_reducible assumption) | assumption)
                have hx22 := bt_at a0 x4_1
                replace p22 := eq_true p22
                replace q22 := eq_true q22
                go_wp2_with (first | ((with_reducible refine gate_builtin (b := .append) (xs := #[.tmp 15, .tmp 19]) rfl ?_); at_builtin; refine Kd.R_append (Kd.int .u8) (w0 := w) w.heap.size rfl (.tmp 15) (.tmp 19) 22 5 (.int .u8 0) 1 rfl Try.underlying22 info5 rfl (by decide) (by omega) u3 x3_1 (bt a0 x4_1) [.int .u8 (bt a0 x4_1)] (fun _ => True) (fun _ => False) rfl rfl ?aP (fun _ hk => hk.elim) ?aF ?aO ?aB ?aS ?aL ?_; (case aP => exact rfl); (case aB => exact (by repeat (first | (with_reducible first | exact HB.out | apply below_alloc | apply pw_below_drewN | apply below_drew1) | exact HB.out))); (case aF => exact (fun _ _ => trivial)); (case aO => exact (by (with_reducible repeat (first | apply Kd.R_alloc | apply Kd.R_drewN | apply Kd.R_drew)); exact HO_3.out)); (case aS => exact (below_size (by repeat (first | (with_reducible first | exact HB.out | apply below_alloc | apply pw_below_drewN | apply below_drew1) | exact HB.out)))); (case aL => have := LMc23.out; omega); intro v336 w24 ho hb hg hat; rw [← Ny335.out] at ho; have n0_ := Aside0.mk (hb); have n1_ := Aside0.mk (ho); clear HB; clear HO_3; have HB := n0_; have HO337 := n1_; clear n0_ n1_; clear ho hb hg hat))
                go_roundg k1
                case measure => have := HK1.out; omega
                case rel => exact ⟨(y335), (wrap64 (x4_1 + 1)), (by first | rfl | (simp; done) | (simp [*]; done)), H', ⟨by have := HK1.out; omega⟩, ⟨by (with_reducible repeat (first | apply Kd.R_alloc | apply Kd.R_drewN | apply Kd.R_drew)); exact HO337.out⟩, ⟨by repeat (first | (with_reducible first | exact HB.out | apply below_alloc | apply pw_below_drewN | apply below_drew1) | exact HB.out)⟩⟩
              · rw [if_neg c23] at H
                exact absurd H (by simp)
        · rw [if_neg c5] at H
          exact absurd H (by simp)
      · rw [if_neg c4] at H
        have c4b0 : decide (x4_1 < (a0.size : Int)) = false := decide_eq_false c4
        clear c4
        obtain rfl := Option.some.inj H
        have hcv25 := own_string (P := Try.prog) Try.underlying22 Try.underlying5 Try.underlying9 (Kd.own_of_R HO_3.out)
        go_wp2
        go_ret
        exact ⟨by first | rfl | (simp [errW_none, errW_some] <;> rfl) | (simp [*, errW_none, errW_some] <;> rfl), by repeat (first | (with_reducible first | exact HB.out | apply below_alloc | apply pw_below_drewN | apply below_drew1) | exact HB.out)⟩

end Go.Proofs.Ytmffcjjodkggcaa.MFnPoints
