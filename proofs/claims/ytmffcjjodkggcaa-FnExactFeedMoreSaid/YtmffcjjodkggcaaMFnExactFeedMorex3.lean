-- Written by this session's own program (wip/gen/myprint.py).
import Derived.Test.YtmffcjjodkggcaaMFnExactFeedMorex0
import Derived.Test.YtmffcjjodkggcaaMFnExactFeedMorex1
import Derived.Test.YtmffcjjodkggcaaMFnExactFeedMorex2
namespace Go.Proofs.Ytmffcjjodkggcaa.MFnExactFeedMore
open Go.RowKit Go.Proofs.YtmffcjjodkggcaaW.PrintWords Go.Proofs.YtmffcjjodkggcaaW.PrintLast Go.Proofs.YtmffcjjodkggcaaW.PrintMore
attribute [local go_sem] max2_int min2_int max_two min_two max_three min_three max_four min_four   -- for this text's walks alone
set_option linter.unusedVariables false
set_option linter.unusedSimpArgs false
def codV : Nat → Value
 | 0 => .iface 54 (.agg #[])
 | 1 => .iface 86 (.agg #[.bool false])
 | 2 => .iface 86 (.agg #[.bool true])
 | _ => .iface 87 (.agg #[])
def markB : Nat → ByteArray
 | 0 => ⟨#[239, 187, 191]⟩
 | 1 => ⟨#[255, 254]⟩
 | 2 => ⟨#[254, 255]⟩
 | _ => ⟨#[]⟩
set_option maxHeartbeats 4000000 in
set_option maxRecDepth 100000 in
theorem cod_calls0 (w : World) : Calls Try.prog 40 #[.int .i64 0] w fun e w' => e = .returned (codV 0) ∧ Below w.heap.size w w' := by
 have HB := aMk (Below.refl w.heap.size w)
 go_enter Try.func40, Try.ntmps40
 go_wp2
 go_ret
 exact ⟨rfl, HB.out⟩
set_option maxHeartbeats 4000000 in
set_option maxRecDepth 100000 in
theorem cod_calls1 (w : World) : Calls Try.prog 40 #[.int .i64 1] w fun e w' => e = .returned (codV 1) ∧ Below w.heap.size w w' := by
 have HB := aMk (Below.refl w.heap.size w)
 go_enter Try.func40, Try.ntmps40
 go_wp2
 go_ret
 exact ⟨rfl, HB.out⟩
set_option maxHeartbeats 4000000 in
set_option maxRecDepth 100000 in
theorem cod_calls2 (w : World) : Calls Try.prog 40 #[.int .i64 2] w fun e w' => e = .returned (codV 2) ∧ Below w.heap.size w w' := by
 have HB := aMk (Below.refl w.heap.size w)
 go_enter Try.func40, Try.ntmps40
 go_wp2
 go_ret
 exact ⟨rfl, HB.out⟩
set_option maxHeartbeats 4000000 in
set_option maxRecDepth 100000 in
theorem cod_calls3 (w : World) : Calls Try.prog 40 #[.int .i64 3] w fun e w' => e = .returned (codV 3) ∧ Below w.heap.size w w' := by
 have HB := aMk (Below.refl w.heap.size w)
 go_enter Try.func40, Try.ntmps40
 go_wp2
 go_ret
 exact ⟨rfl, HB.out⟩
set_option maxHeartbeats 4000000 in
set_option maxRecDepth 100000 in
theorem cod_callsN (a : Int) (w : World) (h0 : a ≠ 0) (h1 : a ≠ 1) (h2 : a ≠ 2) (h3 : a ≠ 3) : Calls Try.prog 40 #[.int .i64 a] w fun e w' => e = .returned .nilIface ∧ Below w.heap.size w w' := by
 have HB := aMk (Below.refl w.heap.size w)
 have b0 : (a == 0) = false := beq_eq_false_iff_ne.mpr h0
 have b1 : (a == 1) = false := beq_eq_false_iff_ne.mpr h1
 have b2 : (a == 2) = false := beq_eq_false_iff_ne.mpr h2
 have b3 : (a == 3) = false := beq_eq_false_iff_ne.mpr h3
 clear h0 h1 h2 h3
 go_enter Try.func40, Try.ntmps40
 go_wp2
 go_ret
 exact ⟨rfl, HB.out⟩
set_option maxHeartbeats 4000000 in
set_option maxRecDepth 100000 in
theorem mark_calls0 (w : World) : Calls Try.prog 93 #[.agg #[]] w fun e w' => e = .returned (.string (markB 0)) ∧ Below w.heap.size w w' := by
 have hu := Try.underlying54
 have HB := aMk (Below.refl w.heap.size w)
 go_enter Try.func93, Try.ntmps93
 go_wp2
 go_ret
 exact ⟨rfl, bAl HB.out _⟩
set_option maxHeartbeats 4000000 in
set_option maxRecDepth 100000 in
theorem mark_calls3 (w : World) : Calls Try.prog 102 #[.agg #[]] w fun e w' => e = .returned (.string (markB 3)) ∧ Below w.heap.size w w' := by
 have hu := Try.underlying87
 have HB := aMk (Below.refl w.heap.size w)
 go_enter Try.func102, Try.ntmps102
 go_wp2
 go_ret
 exact ⟨rfl, bAl HB.out _⟩
theorem mark_calls1 (w : World) : Calls Try.prog 96 #[.agg #[.bool false]] w fun e w' => e = .returned (.string (markB 1)) ∧ Below w.heap.size w w' := impl_pairCoding_mark.calls false (markB 1) w rfl
theorem mark_calls2 (w : World) : Calls Try.prog 96 #[.agg #[.bool true]] w fun e w' => e = .returned (.string (markB 2)) ∧ Below w.heap.size w w' := impl_pairCoding_mark.calls true (markB 2) w rfl
theorem pre_le {l : List Int} {m : ByteArray} (h : strings_HasPrefix.f (strOfNums l) m = some true) : m.size ≤ l.length := by
 have hs := strOfNums_size l
 unfold strings_HasPrefix.f stringslite_HasPrefix.f at h
 by_cases c : ((strOfNums l).size : Int) ≥ (m.size : Int)
 · omega
 · rw [if_neg c] at h; cases h
set_option maxHeartbeats 4000000 in
set_option maxRecDepth 100000 in
theorem bare_calls0 (A : Option Addr) (c : Nat) (l : List Int) (p : Bool) (w : World) (hr : Kd.C (Kd.int .u8) w A l.length l) (hc : l.length ≤ c) (hp : strings_HasPrefix.f (strOfNums l) (markB 0) = some p) (hle : p = true → (markB 0).size ≤ l.length) :
 Calls Try.prog 41 #[codV 0, .slice A l.length c] w fun e w' => Below w.heap.size w w' ∧ ∃ A1 c1, e = .returned (.slice A1 (if p = true then l.drop (markB 0).size else l).length c1) ∧ Kd.C (Kd.int .u8) w A1 (if p = true then l.drop (markB 0).size else l).length (if p = true then l.drop (markB 0).size else l) ∧ (if p = true then l.drop (markB 0).size else l).length ≤ c1 := by
 have HB := aMk (Below.refl w.heap.size w)
 have HP := aMk hp
 have HR := aMk hr
 have HC := aMk hc
 clear hp hr hc
 show Calls Try.prog 41 #[.iface 54 (.agg #[]), .slice A l.length c] w _
 have HLE := aMk hle
 clear hle
 obtain ⟨i0, hi0, _, hz1, _⟩ := info_parts infoB
 cases p with
 | false =>
  clear hi0 hz1
  go_enter Try.func41, Try.ntmps41
  go_wp2_with (first | (go_at_call 93; refine (mark_calls0 w).mono ?_; rintro e w1 ⟨rfl, hb⟩; have HB1 := aMk hb; clear hb HB; have hcv := Kd.C_string (P := Try.prog) (n := l.length) (c := c) (dst := 9) Try.underlying22 Try.underlying5 Try.underlying9 (Kd.C_below HR.out HB1.out)) | (go_at_call 61; refine (strings_HasPrefix.calls (strOfNums l) (markB 0) false w1 HP.out).mono ?_; rintro e w' ⟨rfl, ⟨nd, rfl⟩⟩; have HB2 := aMk (bDn HB1.out nd)))
  go_ret
  exact ⟨HB2.out, A, c, rfl, HR.out, HC.out⟩
 | true =>
  have hle := HLE.out rfl
  have hcut := cut_from (P := Try.prog) 22 5 .i64 Try.underlying22 hi0 1 hz1 A l.length c ((markB 0).size : Int) (by omega) (by omega)
  rw [Int.toNat_natCast] at hcut
  have HR2 := Kd.C_drop (k := Kd.int .u8) (m := (markB 0).size) (c := c) HR.out hle HC.out
  have hsz1 : (Kd.int .u8).sz = 1 := rfl
  rw [hsz1] at HR2
  obtain ⟨A', hA'⟩ : ∃ A', A' = (if c = (markB 0).size then A else A.map (·.add ((markB 0).size * 1))) := ⟨_, rfl⟩
  rw [← hA'] at hcut HR2
  have hld : (l.drop (markB 0).size).length = l.length - (markB 0).size := List.length_drop
  rw [← hld] at hcut
  replace HR2 := aMk HR2
  have HLD := aMk hld
  clear hA' hld hi0 hz1 hsz1 hle
  go_enter Try.func41, Try.ntmps41
  go_wp2_with (first | (go_at_call 93; refine (mark_calls0 w).mono ?_; rintro e w1 ⟨rfl, hb⟩; have HB1 := aMk hb; clear hb HB; have hcv := Kd.C_string (P := Try.prog) (n := l.length) (c := c) (dst := 9) Try.underlying22 Try.underlying5 Try.underlying9 (Kd.C_below HR.out HB1.out)) | (go_at_call 61; refine (strings_HasPrefix.calls (strOfNums l) (markB 0) true w1 HP.out).mono ?_; rintro e w' ⟨rfl, ⟨nd, rfl⟩⟩; have HB2 := aMk (bDn HB1.out nd)))
  go_ret
  exact ⟨HB2.out, A', c - (markB 0).size, rfl, by have h := HR2.out; rwa [HLD.out] at h, by have h := HC.out; have h2 := HLE.out (by first | rfl | trivial); omega⟩
set_option maxHeartbeats 4000000 in
set_option maxRecDepth 100000 in
theorem bare_calls1 (A : Option Addr) (c : Nat) (l : List Int) (p : Bool) (w : World) (hr : Kd.C (Kd.int .u8) w A l.length l) (hc : l.length ≤ c) (hp : strings_HasPrefix.f (strOfNums l) (markB 1) = some p) (hle : p = true → (markB 1).size ≤ l.length) :
 Calls Try.prog 41 #[codV 1, .slice A l.length c] w fun e w' => Below w.heap.size w w' ∧ ∃ A1 c1, e = .returned (.slice A1 (if p = true then l.drop (markB 1).size else l).length c1) ∧ Kd.C (Kd.int .u8) w A1 (if p = true then l.drop (markB 1).size else l).length (if p = true then l.drop (markB 1).size else l) ∧ (if p = true then l.drop (markB 1).size else l).length ≤ c1 := by
 have HB := aMk (Below.refl w.heap.size w)
 have HP := aMk hp
 have HR := aMk hr
 have HC := aMk hc
 clear hp hr hc
 show Calls Try.prog 41 #[.iface 86 (.agg #[.bool false]), .slice A l.length c] w _
 have HLE := aMk hle
 clear hle
 obtain ⟨i0, hi0, _, hz1, _⟩ := info_parts infoB
 cases p with
 | false =>
  clear hi0 hz1
  go_enter Try.func41, Try.ntmps41
  go_wp2_with (first | (go_at_call 96; refine (mark_calls1 w).mono ?_; rintro e w1 ⟨rfl, hb⟩; have HB1 := aMk hb; clear hb HB; have hcv := Kd.C_string (P := Try.prog) (n := l.length) (c := c) (dst := 9) Try.underlying22 Try.underlying5 Try.underlying9 (Kd.C_below HR.out HB1.out)) | (go_at_call 61; refine (strings_HasPrefix.calls (strOfNums l) (markB 1) false w1 HP.out).mono ?_; rintro e w' ⟨rfl, ⟨nd, rfl⟩⟩; have HB2 := aMk (bDn HB1.out nd)))
  go_ret
  exact ⟨HB2.out, A, c, rfl, HR.out, HC.out⟩
 | true =>
  have hle := HLE.out rfl
  have hcut := cut_from (P := Try.prog) 22 5 .i64 Try.underlying22 hi0 1 hz1 A l.length c ((markB 1).size : Int) (by omega) (by omega)
  rw [Int.toNat_natCast] at hcut
  have HR2 := Kd.C_drop (k := Kd.int .u8) (m := (markB 1).size) (c := c) HR.out hle HC.out
  have hsz1 : (Kd.int .u8).sz = 1 := rfl
  rw [hsz1] at HR2
  obtain ⟨A', hA'⟩ : ∃ A', A' = (if c = (markB 1).size then A else A.map (·.add ((markB 1).size * 1))) := ⟨_, rfl⟩
  rw [← hA'] at hcut HR2
  have hld : (l.drop (markB 1).size).length = l.length - (markB 1).size := List.length_drop
  rw [← hld] at hcut
  replace HR2 := aMk HR2
  have HLD := aMk hld
  clear hA' hld hi0 hz1 hsz1 hle
  go_enter Try.func41, Try.ntmps41
  go_wp2_with (first | (go_at_call 96; refine (mark_calls1 w).mono ?_; rintro e w1 ⟨rfl, hb⟩; have HB1 := aMk hb; clear hb HB; have hcv := Kd.C_string (P := Try.prog) (n := l.length) (c := c) (dst := 9) Try.underlying22 Try.underlying5 Try.underlying9 (Kd.C_below HR.out HB1.out)) | (go_at_call 61; refine (strings_HasPrefix.calls (strOfNums l) (markB 1) true w1 HP.out).mono ?_; rintro e w' ⟨rfl, ⟨nd, rfl⟩⟩; have HB2 := aMk (bDn HB1.out nd)))
  go_ret
  exact ⟨HB2.out, A', c - (markB 1).size, rfl, by have h := HR2.out; rwa [HLD.out] at h, by have h := HC.out; have h2 := HLE.out (by first | rfl | trivial); omega⟩
set_option maxHeartbeats 4000000 in
set_option maxRecDepth 100000 in
theorem bare_calls2 (A : Option Addr) (c : Nat) (l : List Int) (p : Bool) (w : World) (hr : Kd.C (Kd.int .u8) w A l.length l) (hc : l.length ≤ c) (hp : strings_HasPrefix.f (strOfNums l) (markB 2) = some p) (hle : p = true → (markB 2).size ≤ l.length) :
 Calls Try.prog 41 #[codV 2, .slice A l.length c] w fun e w' => Below w.heap.size w w' ∧ ∃ A1 c1, e = .returned (.slice A1 (if p = true then l.drop (markB 2).size else l).length c1) ∧ Kd.C (Kd.int .u8) w A1 (if p = true then l.drop (markB 2).size else l).length (if p = true then l.drop (markB 2).size else l) ∧ (if p = true then l.drop (markB 2).size else l).length ≤ c1 := by
 have HB := aMk (Below.refl w.heap.size w)
 have HP := aMk hp
 have HR := aMk hr
 have HC := aMk hc
 clear hp hr hc
 show Calls Try.prog 41 #[.iface 86 (.agg #[.bool true]), .slice A l.length c] w _
 have HLE := aMk hle
 clear hle
 obtain ⟨i0, hi0, _, hz1, _⟩ := info_parts infoB
 cases p with
 | false =>
  clear hi0 hz1
  go_enter Try.func41, Try.ntmps41
  go_wp2_with (first | (go_at_call 96; refine (mark_calls2 w).mono ?_; rintro e w1 ⟨rfl, hb⟩; have HB1 := aMk hb; clear hb HB; have hcv := Kd.C_string (P := Try.prog) (n := l.length) (c := c) (dst := 9) Try.underlying22 Try.underlying5 Try.underlying9 (Kd.C_below HR.out HB1.out)) | (go_at_call 61; refine (strings_HasPrefix.calls (strOfNums l) (markB 2) false w1 HP.out).mono ?_; rintro e w' ⟨rfl, ⟨nd, rfl⟩⟩; have HB2 := aMk (bDn HB1.out nd)))
  go_ret
  exact ⟨HB2.out, A, c, rfl, HR.out, HC.out⟩
 | true =>
  have hle := HLE.out rfl
  have hcut := cut_from (P := Try.prog) 22 5 .i64 Try.underlying22 hi0 1 hz1 A l.length c ((markB 2).size : Int) (by omega) (by omega)
  rw [Int.toNat_natCast] at hcut
  have HR2 := Kd.C_drop (k := Kd.int .u8) (m := (markB 2).size) (c := c) HR.out hle HC.out
  have hsz1 : (Kd.int .u8).sz = 1 := rfl
  rw [hsz1] at HR2
  obtain ⟨A', hA'⟩ : ∃ A', A' = (if c = (markB 2).size then A else A.map (·.add ((markB 2).size * 1))) := ⟨_, rfl⟩
  rw [← hA'] at hcut HR2
  have hld : (l.drop (markB 2).size).length = l.length - (markB 2).size := List.length_drop
  rw [← hld] at hcut
  replace HR2 := aMk HR2
  have HLD := aMk hld
  clear hA' hld hi0 hz1 hsz1 hle
  go_enter Try.func41, Try.ntmps41
  go_wp2_with (first | (go_at_call 96; refine (mark_calls2 w).mono ?_; rintro e w1 ⟨rfl, hb⟩; have HB1 := aMk hb; clear hb HB; have hcv := Kd.C_string (P := Try.prog) (n := l.length) (c := c) (dst := 9) Try.underlying22 Try.underlying5 Try.underlying9 (Kd.C_below HR.out HB1.out)) | (go_at_call 61; refine (strings_HasPrefix.calls (strOfNums l) (markB 2) true w1 HP.out).mono ?_; rintro e w' ⟨rfl, ⟨nd, rfl⟩⟩; have HB2 := aMk (bDn HB1.out nd)))
  go_ret
  exact ⟨HB2.out, A', c - (markB 2).size, rfl, by have h := HR2.out; rwa [HLD.out] at h, by have h := HC.out; have h2 := HLE.out (by first | rfl | trivial); omega⟩
set_option maxHeartbeats 4000000 in
set_option maxRecDepth 100000 in
theorem bare_calls3 (A : Option Addr) (c : Nat) (l : List Int) (p : Bool) (w : World) (hr : Kd.C (Kd.int .u8) w A l.length l) (hc : l.length ≤ c) (hp : strings_HasPrefix.f (strOfNums l) (markB 3) = some p) (hle : p = true → (markB 3).size ≤ l.length) :
 Calls Try.prog 41 #[codV 3, .slice A l.length c] w fun e w' => Below w.heap.size w w' ∧ ∃ A1 c1, e = .returned (.slice A1 (if p = true then l.drop (markB 3).size else l).length c1) ∧ Kd.C (Kd.int .u8) w A1 (if p = true then l.drop (markB 3).size else l).length (if p = true then l.drop (markB 3).size else l) ∧ (if p = true then l.drop (markB 3).size else l).length ≤ c1 := by
 have HB := aMk (Below.refl w.heap.size w)
 have HP := aMk hp
 have HR := aMk hr
 have HC := aMk hc
 clear hp hr hc
 show Calls Try.prog 41 #[.iface 87 (.agg #[]), .slice A l.length c] w _
 have HLE := aMk hle
 clear hle
 obtain ⟨i0, hi0, _, hz1, _⟩ := info_parts infoB
 cases p with
 | false =>
  clear hi0 hz1
  go_enter Try.func41, Try.ntmps41
  go_wp2_with (first | (go_at_call 102; refine (mark_calls3 w).mono ?_; rintro e w1 ⟨rfl, hb⟩; have HB1 := aMk hb; clear hb HB; have hcv := Kd.C_string (P := Try.prog) (n := l.length) (c := c) (dst := 9) Try.underlying22 Try.underlying5 Try.underlying9 (Kd.C_below HR.out HB1.out)) | (go_at_call 61; refine (strings_HasPrefix.calls (strOfNums l) (markB 3) false w1 HP.out).mono ?_; rintro e w' ⟨rfl, ⟨nd, rfl⟩⟩; have HB2 := aMk (bDn HB1.out nd)))
  go_ret
  exact ⟨HB2.out, A, c, rfl, HR.out, HC.out⟩
 | true =>
  have hle := HLE.out rfl
  have hcut := cut_from (P := Try.prog) 22 5 .i64 Try.underlying22 hi0 1 hz1 A l.length c ((markB 3).size : Int) (by omega) (by omega)
  rw [Int.toNat_natCast] at hcut
  have HR2 := Kd.C_drop (k := Kd.int .u8) (m := (markB 3).size) (c := c) HR.out hle HC.out
  have hsz1 : (Kd.int .u8).sz = 1 := rfl
  rw [hsz1] at HR2
  obtain ⟨A', hA'⟩ : ∃ A', A' = (if c = (markB 3).size then A else A.map (·.add ((markB 3).size * 1))) := ⟨_, rfl⟩
  rw [← hA'] at hcut HR2
  have hld : (l.drop (markB 3).size).length = l.length - (markB 3).size := List.length_drop
  rw [← hld] at hcut
  replace HR2 := aMk HR2
  have HLD := aMk hld
  clear hA' hld hi0 hz1 hsz1 hle
  go_enter Try.func41, Try.ntmps41
  go_wp2_with (first | (go_at_call 102; refine (mark_calls3 w).mono ?_; rintro e w1 ⟨rfl, hb⟩; have HB1 := aMk hb; clear hb HB; have hcv := Kd.C_string (P := Try.prog) (n := l.length) (c := c) (dst := 9) Try.underlying22 Try.underlying5 Try.underlying9 (Kd.C_below HR.out HB1.out)) | (go_at_call 61; refine (strings_HasPrefix.calls (strOfNums l) (markB 3) true w1 HP.out).mono ?_; rintro e w' ⟨rfl, ⟨nd, rfl⟩⟩; have HB2 := aMk (bDn HB1.out nd)))
  go_ret
  exact ⟨HB2.out, A', c - (markB 3).size, rfl, by have h := HR2.out; rwa [HLD.out] at h, by have h := HC.out; have h2 := HLE.out (by first | rfl | trivial); omega⟩
set_option maxHeartbeats 4000000 in
set_option maxRecDepth 100000 in
theorem latin_calls (A : Option Addr) (c : Nat) (l : List Int) (w : World) (hr : Kd.C (Kd.int .u8) w A l.length l) (hc : l.length ≤ c) (hl : l.length ≤ 1099511627776) (hrg : ∀ x ∈ l, 0 ≤ x ∧ x ≤ 255) :
 Calls Try.prog 103 #[.agg #[], .slice A l.length c] w fun e w' => e = .returned (.string (strOfNums (encU l))) ∧ Below w.heap.size w w' := by
 have hu87 := Try.underlying87
 have hu22 := Try.underlying22
 have HR := aMk hr
 have HC := aMk hc
 have HL := aMk hl
 have HRG := aMk hrg
 clear hr hc hl hrg
 have HB := aMk (Below.refl w.heap.size w)
 go_enter Try.func103, Try.ntmps103
 go_wp2_with (first | ((with_reducible refine gate_dst (N := 8) rfl ?_); refine Kd.R_lit (Kd.int .i64) _ 3 ?hg (N := 8) ?hd (xs := ([] : List Int)) (inner := []) (ok := fun _ => True) (okp := fun _ => True) ?hr ?hp (fun _ hk => hk) trivial (Below.refl _ _) (Nat.le_refl _) (by simp) ?_; (case hd => rfl); (case hg => rfl); (case hr => first | (go_simp; done) | (go_simp; rfl)); (case hp => exact (Reps.none _ _)); intro v3 w3 ho3 hb hg_ hnew_; clear hg_ hnew_; have HB2 := aMk (below_step (bAl HB.out (.cells #[] 87)) hb); have HO1 := aMk (Kd.R_lower ho3 (below_size (bAl HB.out (.cells #[] 87)))); clear HB hb ho3))
 go_loopg [5, 11] l.length (fun kq v5 v11 w' => ∃ i : Nat, v11 = .int .i64 (i : Int) ∧ Aside0 (i + kq = l.length) ∧ Aside0 (Kd.R (Kd.int .i64) 3 w' w.heap.size (fun _ => True) v5 (l.take i)) ∧ Aside0 (Below w.heap.size w w'))
 case atStart => exact ⟨0, rfl, ⟨by omega⟩, HO1, HB2⟩
 case round =>
  clear HO1 HB2
  obtain ⟨i, rfl, HI, HO, HB⟩ := hrel
  by_cases c0 : i < l.length
  · have c1 : decide ((i : Int) < (l.length : Int)) = true := decide_eq_true (by omega)
    have c1n : decide (i < l.length) = true := decide_eq_true c0
    have hk : gk ≠ 0 := by have := HI.out; omega
    obtain ⟨k1, rfl⟩ := Nat.exists_eq_succ_of_ne_zero hk
    clear hk
    have p1 : 0 ≤ (i : Int) := by omega
    have q1 : (i : Int) < (l.length : Int) := by omega
    obtain ⟨ad, e1, hx⟩ := Kd.at_int HR.out (i : Int) p1 q1
    cases e1
    replace hx := (HB.out.cell (wBl w _ hx)).trans hx
    replace p1 := eq_true p1
    replace q1 := eq_true q1
    have hel := HRG.out l[i] (List.getElem_mem c0)
    have hrd : rd l (i : Int) = l[i] := rd_n1 l i c0
    rw [hrd, Int.toNat_natCast] at hx
    obtain ⟨x, hxx⟩ : ∃ x, x = l[i] := ⟨_, rfl⟩
    rw [← hxx] at hx hel
    have HWX : Aside0 (wrap64 x = x) := ⟨by unfold wrap64; omega⟩
    have HT : Aside0 (l.take i ++ [wrap64 x] = l.take (i + 1)) := ⟨by rw [HWX.out, hxx, List.take_add_one, List.getElem?_eq_getElem c0]; rfl⟩
    have HLT : Aside0 ((l.take i).length < 17592186044416) := ⟨by rw [List.length_take]; have := HL.out; omega⟩
    have HW : Aside0 (wrap64 ((i : Int) + 1) = ((i + 1 : Nat) : Int)) := ⟨by have := HL.out; unfold wrap64; omega⟩
    obtain ⟨ys, hys⟩ : ∃ ys, ys = l.take i := ⟨_, rfl⟩
    rw [← hys] at HO HT HLT
    clear hxx hrd hys c0 hel
    go_wp2_with (first | ((with_reducible refine gate_builtin (b := .append) (xs := #[.tmp 15, .tmp 18]) rfl ?_); go_loud (at_builtin; refine Kd.R_append (Kd.int .i64) (w0 := w) w.heap.size rfl (.tmp 15) (.tmp 18) 24 3 (.int .i64 0) 8 rfl Try.underlying24 info3 rfl (by decide) (by omega) u5 ys (wrap64 x) [.int .i64 (wrap64 x)] (fun _ => True) (fun _ => False) rfl rfl ?aP (fun _ hk => hk.elim) ?aF ?aO ?aB ?aS ?aL ?_; (case aP => exact rfl); (case aB => exact (by repeat (first | (with_reducible first | exact HB.out | apply bAl | apply bDn | apply bD1) | exact HB.out))); (case aF => exact (fun _ _ => trivial)); (case aO => exact (by (with_reducible repeat (first | apply Kd.R_alloc | apply Kd.R_drewN | apply Kd.R_drew)); exact HO.out)); (case aS => exact (below_size (by repeat (first | (with_reducible first | exact HB.out | apply bAl | apply bDn | apply bD1) | exact HB.out)))); (case aL => have := HLT.out; omega); intro v7 w7 ho hb hg hat; have HO3 := aMk ho; have HB3 := aMk hb; clear ho hb hg hat)))
    go_roundg k1
    case measure => omega
    case rel => exact ⟨i + 1, congrArg (Value.int .i64) HW.out, ⟨by have := HI.out; omega⟩, ⟨by rw [← HT.out]; exact HO3.out⟩, HB3⟩
  · have c1 : decide ((i : Int) < (l.length : Int)) = false := decide_eq_false (by omega)
    have c1n : decide (i < l.length) = false := decide_eq_false c0
    have HE : Aside0 (l.take i = l) := ⟨List.take_of_length_le (by omega)⟩
    rw [HE.out] at HO
    clear c0
    obtain ⟨A2, c2, e2, _, _⟩ := Kd.R_reads HO.out
    subst e2
    have hq := (Kd.R_reads' HO.out)
    have HQ := aMk hq
    clear hq
    go_wp2_with (go_at_call 10; refine (enc_calls A2 c2 l wr HQ.out.2.2 HQ.out.2.1 HL.out).mono ?_; rintro e w' ⟨rfl, hb⟩; have HB2 := aMk (below_step HB.out hb); clear hb)
    go_ret
    exact ⟨rfl, HB2.out⟩
def cutB (e : Nat) (p : Bool) (l : List Int) : List Int := if p = true then l.drop (markB e).size else l
def readK (k e : Nat) (l : List Int) : Option ByteArray := match e with
 | 0 => some (strOfNums (rdU l.length l))
 | 1 => impl_pairCoding_read.f k false l
 | 2 => impl_pairCoding_read.f k true l
 | _ => some (strOfNums (encU l))
def bytesOk (l : List Int) : Bool := l.all fun x => decide (0 ≤ x) && decide (x ≤ 255)
theorem bytesOk_all {l : List Int} (h : bytesOk l = true) : ∀ x ∈ l, 0 ≤ x ∧ x ≤ 255 := by
 intro x hx
 have := List.all_eq_true.1 h x hx
 simpa using this
theorem cutB_all {l : List Int} (e : Nat) (p : Bool) (h : ∀ x ∈ l, 0 ≤ x ∧ x ≤ 255) : ∀ x ∈ cutB e p l, 0 ≤ x ∧ x ≤ 255 := by
 unfold cutB
 split
 · exact fun x hx => h x (List.mem_of_mem_drop hx)
 · exact h
theorem cutB_len {l : List Int} (e : Nat) (p : Bool) : (cutB e p l).length ≤ l.length := by
 unfold cutB
 split
 · rw [List.length_drop]; omega
 · exact Nat.le_refl _
theorem u8_V {A : Option Addr} {c : Nat} {l : List Int} {w : World} (hr : Kd.C (Kd.int .u8) w A l.length l) (hc : l.length ≤ c) : Kd.V (Kd.int .u8) 5 w w.heap.size (fun k => k < w.heap.size) (.slice A l.length c) l := Kd.V_mk hc (Kd.C_F (Kd.heap_int .u8) hr)
end Go.Proofs.Ytmffcjjodkggcaa.MFnExactFeedMore
