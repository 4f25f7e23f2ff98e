-- Written by this session's own program (wip/gen/myprint.py).
import Derived.Test.YtmffcjjodkggcaaMFnPointsx0
import Derived.Test.YtmffcjjodkggcaaMFnPointsx8
namespace Go.Proofs.Ytmffcjjodkggcaa.MFnPoints
open Go.RowKit Go.Proofs.YtmffcjjodkggcaaW.PrintWords Go.Proofs.YtmffcjjodkggcaaW.PrintLast Go.Proofs.YtmffcjjodkggcaaW.PrintMore
attribute [local go_sem] max2_int min2_int max_two min_two max_three min_three max_four min_four   -- for this text's walks alone
set_option linter.unusedVariables false
set_option linter.unusedSimpArgs false

/-! ### spec_l1Point: function 70 -/
def spec_l1Point.f (l0 : List Int) : Option (Int) := if (l0.length : Int) = 1 then (if 0 < (l0.length : Int) then (some (wrap64 (rd l0 0))) else (none)) else (if (l0.length : Int) = 2 then (if 0 < (l0.length : Int) then (if 1 < (l0.length : Int) then (some (wrap64 ((wrap64 ((wrap64 (Go.bits .and .u8 (rd l0 0) 31)) * 64)) + (wrap64 (Go.bits .and .u8 (rd l0 1) 63))))) else (none)) else (none)) else (if (l0.length : Int) = 3 then (if 0 < (l0.length : Int) then (if 1 < (l0.length : Int) then (if 2 < (l0.length : Int) then (some (wrap64 ((wrap64 ((wrap64 ((wrap64 (Go.bits .and .u8 (rd l0 0) 15)) * 4096)) + (wrap64 ((wrap64 (Go.bits .and .u8 (rd l0 1) 63)) * 64)))) + (wrap64 (Go.bits .and .u8 (rd l0 2) 63))))) else (none)) else (none)) else (none)) else (if 0 < (l0.length : Int) then (if 1 < (l0.length : Int) then (if 2 < (l0.length : Int) then (if 3 < (l0.length : Int) then (some (wrap64 ((wrap64 ((wrap64 ((wrap64 ((wrap64 (Go.bits .and .u8 (rd l0 0) 7)) * 262144)) + (wrap64 ((wrap64 (Go.bits .and .u8 (rd l0 1) 63)) * 4096)))) + (wrap64 ((wrap64 (Go.bits .and .u8 (rd l0 2) 63)) * 64)))) + (wrap64 (Go.bits .and .u8 (rd l0 3) 63))))) else (none)) else (none)) else (none)) else (none))))
set_option maxHeartbeats 8000000 in
set_option maxRecDepth 100000 in
theorem spec_l1Point.calls (A0 : Option Addr) (c0 : Nat) (l0 : List Int) (r : Int) (w : World) (hr0 : Kd.C (Kd.int .u8) w A0 l0.length l0) (hc0 : l0.length ≤ c0) (h : spec_l1Point.f l0 = some r) :
    Calls Try.prog 70 #[.slice A0 l0.length c0] w fun e w' => e = .returned (.int .i64 r) ∧ Drawn0 w w' := by
  have HR0 := Aside0.mk hr0
  have HC0 := Aside0.mk hc0
  clear hr0 hc0
  have H : (if (l0.length : Int) = 1 then (if 0 < (l0.length : Int) then (some (wrap64 (rd l0 0))) else (none)) else (if (l0.length : Int) = 2 then (if 0 < (l0.length : Int) then (if 1 < (l0.length : Int) then (some (wrap64 ((wrap64 ((wrap64 (Go.bits .and .u8 (rd l0 0) 31)) * 64)) + (wrap64 (Go.bits .and .u8 (rd l0 1) 63))))) else (none)) else (none)) else (if (l0.length : Int) = 3 then (if 0 < (l0.length : Int) then (if 1 < (l0.length : Int) then (if 2 < (l0.length : Int) then (some (wrap64 ((wrap64 ((wrap64 ((wrap64 (Go.bits .and .u8 (rd l0 0) 15)) * 4096)) + (wrap64 ((wrap64 (Go.bits .and .u8 (rd l0 1) 63)) * 64)))) + (wrap64 (Go.bits .and .u8 (rd l0 2) 63))))) else (none)) else (none)) else (none)) else (if 0 < (l0.length : Int) then (if 1 < (l0.length : Int) then (if 2 < (l0.length : Int) then (if 3 < (l0.length : Int) then (some (wrap64 ((wrap64 ((wrap64 ((wrap64 ((wrap64 (Go.bits .and .u8 (rd l0 0) 7)) * 262144)) + (wrap64 ((wrap64 (Go.bits .and .u8 (rd l0 1) 63)) * 4096)))) + (wrap64 ((wrap64 (Go.bits .and .u8 (rd l0 2) 63)) * 64)))) + (wrap64 (Go.bits .and .u8 (rd l0 3) 63))))) else (none)) else (none)) else (none)) else (none))))) = some r := h
  clear h
  by_cases c2 : (l0.length : Int) = 1
  · rw [if_pos c2] at H
    have c2b0 : ((l0.length : Int) == 1) = true := beq_iff_eq.mpr c2
    have c2b1 : ((l0.length : Int) != 1) = false := bne_eq_false_iff_eq.mpr c2
    clear c2
    by_cases c3 : 0 < (l0.length : Int)
    · rw [if_pos c3] at H
      have c3b0 : decide (0 < (l0.length : Int)) = true := decide_eq_true c3
      have c3b1 : decide (0 < l0.length) = true := decide_eq_true (by omega)
      clear c3
      obtain rfl := Option.some.inj H
      have p378 : 0 ≤ (0 : Int) := (by omega)
      have q378 : 0 < (l0.length : Int) := of_decide_eq_true (by first | (with_reducible assumption) | assumption)
      obtain ⟨ad378, e378, hx378_0⟩ := Kd.at_int HR0.out 0 p378 q378
      cases e378
      have qi378 : (0 < l0.length) = True := eq_true (by omega)
      (try rw [show ((0 : Int)).toNat = 0 from rfl] at hx378_0)
      (try rw [Addr.add_zero'] at hx378_0)
      replace p378 := eq_true p378
      replace q378 := eq_true q378
      go_enter Try.func70, Try.ntmps70
      go_wp2
      repeat (go_quiet (fail); try go_wp2)
      go_ret
      exact ⟨by first | rfl | (simp; done) | (simp [*]; done), by repeat (first | exact Drawn0.refl _ | apply Drawn0.step)⟩
    · rw [if_neg c3] at H
      exact absurd H (by simp)
  · rw [if_neg c2] at H
    have c2b0 : ((l0.length : Int) == 1) = false := beq_eq_false_iff_ne.mpr c2
    have c2b1 : ((l0.length : Int) != 1) = true := bne_iff_ne.mpr c2
    by_cases c4 : (l0.length : Int) = 2
    · rw [if_pos c4] at H
      have c4b0 : ((l0.length : Int) == 2) = true := beq_iff_eq.mpr c4
      have c4b1 : ((l0.length : Int) != 2) = false := bne_eq_false_iff_eq.mpr c4
      clear c4
      by_cases c5 : 0 < (l0.length : Int)
      · rw [if_pos c5] at H
        have c5b0 : decide (0 < (l0.length : Int)) = true := decide_eq_true c5
        have c5b1 : decide (0 < l0.length) = true := decide_eq_true (by omega)
        clear c5
        by_cases c6 : 1 < (l0.length : Int)
        · rw [if_pos c6] at H
          have c6b0 : decide (1 < (l0.length : Int)) = true := decide_eq_true c6
          have c6b1 : decide (1 < l0.length) = true := decide_eq_true (by omega)
          clear c6
          obtain rfl := Option.some.inj H
          have p379 : 0 ≤ (0 : Int) := (by omega)
          have q379 : 0 < (l0.length : Int) := of_decide_eq_true (by first | (with_reducible assumption) | assumption)
          obtain ⟨ad379, e379, hx379_0⟩ := Kd.at_int HR0.out 0 p379 q379
          cases e379
          have qi379 : (0 < l0.length) = True := eq_true (by omega)
          (try rw [show ((0 : Int)).toNat = 0 from rfl] at hx379_0)
          (try rw [Addr.add_zero'] at hx379_0)
          replace p379 := eq_true p379
          replace q379 := eq_true q379
          have p380 : 0 ≤ (1 : Int) := (by omega)
          have q380 : 1 < (l0.length : Int) := of_decide_eq_true (by first | (with_reducible assumption) | assumption)
          obtain ⟨ad380, e380, hx380_0⟩ := Kd.at_int HR0.out 1 p380 q380
          obtain rfl : ad379 = ad380 := (by injection e380)
          (try simp only [show (1 : Int).toNat = 1 from rfl, Nat.reduceMul, Nat.reduceEqDiff, Go.Addr.add, ↓reduceIte] at hx380_0)
          have qi380 : (1 < l0.length) = True := eq_true (by omega)
          (try rw [show ((1 : Int)).toNat = 1 from rfl] at hx380_0)
          replace p380 := eq_true p380
          replace q380 := eq_true q380
          go_enter Try.func70, Try.ntmps70
          go_wp2
          repeat (go_quiet (fail); try go_wp2)
          go_ret
          exact ⟨by first | rfl | (simp; done) | (simp [*]; done), by repeat (first | exact Drawn0.refl _ | apply Drawn0.step)⟩
        · rw [if_neg c6] at H
          exact absurd H (by simp)
      · rw [if_neg c5] at H
        exact absurd H (by simp)
    · rw [if_neg c4] at H
      have c4b0 : ((l0.length : Int) == 2) = false := beq_eq_false_iff_ne.mpr c4
      have c4b1 : ((l0.length : Int) != 2) = true := bne_iff_ne.mpr c4
      by_cases c7 : (l0.length : Int) = 3
      · rw [if_pos c7] at H
        have c7b0 : ((l0.length : Int) == 3) = true := beq_iff_eq.mpr c7
        have c7b1 : ((l0.length : Int) != 3) = false := bne_eq_false_iff_eq.mpr c7
        clear c7
        by_cases c8 : 0 < (l0.length : Int)
        · rw [if_pos c8] at H
          have c8b0 : decide (0 < (l0.length : Int)) = true := decide_eq_true c8
          have c8b1 : decide (0 < l0.length) = true := decide_eq_true (by omega)
          clear c8
          by_cases c9 : 1 < (l0.length : Int)
          · rw [if_pos c9] at H
            have c9b0 : decide (1 < (l0.length : Int)) = true := decide_eq_true c9
            have c9b1 : decide (1 < l0.length) = true := decide_eq_true (by omega)
            clear c9
            by_cases c10 : 2 < (l0.length : Int)
            · rw [if_pos c10] at H
              have c10b0 : decide (2 < (l0.length : Int)) = true := decide_eq_true c10
              have c10b1 : decide (2 < l0.length) = true := decide_eq_true (by omega)
              clear c10
              obtain rfl := Option.some.inj H
              have p381 : 0 ≤ (0 : Int) := (by omega)
              have q381 : 0 < (l0.length : Int) := of_decide_eq_true (by first | (with_reducible assumption) | assumption)
              obtain ⟨ad381, e381, hx381_0⟩ := Kd.at_int HR0.out 0 p381 q381
              cases e381
              have qi381 : (0 < l0.length) = True := eq_true (by omega)
              (try rw [show ((0 : Int)).toNat = 0 from rfl] at hx381_0)
              (try rw [Addr.add_zero'] at hx381_0)
              replace p381 := eq_true p381
              replace q381 := eq_true q381
              have p382 : 0 ≤ (1 : Int) := (by omega)
              have q382 : 1 < (l0.length : Int) := of_decide_eq_true (by first | (with_reducible assumption) | assumption)
              obtain ⟨ad382, e382, hx382_0⟩ := Kd.at_int HR0.out 1 p382 q382
              obtain rfl : ad381 = ad382 := (by injection e382)
              (try simp only [show (1 : Int).toNat = 1 from rfl, Nat.reduceMul, Nat.reduceEqDiff, Go.Addr.add, ↓reduceIte] at hx382_0)
              have qi382 : (1 < l0.length) = True := eq_true (by omega)
              (try rw [show ((1 : Int)).toNat = 1 from rfl] at hx382_0)
              replace p382 := eq_true p382
              replace q382 := eq_true q382
              have p383 : 0 ≤ (2 : Int) := (by omega)
              have q383 : 2 < (l0.length : Int) := of_decide_eq_true (by first | (with_reducible assumption) | assumption)
              obtain ⟨ad383, e383, hx383_0⟩ := Kd.at_int HR0.out 2 p383 q383
              obtain rfl : ad381 = ad383 := (by injection e383)
              (try simp only [show (2 : Int).toNat = 2 from rfl, Nat.reduceMul, Nat.reduceEqDiff, Go.Addr.add, ↓reduceIte] at hx383_0)
              have qi383 : (2 < l0.length) = True := eq_true (by omega)
              (try rw [show ((2 : Int)).toNat = 2 from rfl] at hx383_0)
              replace p383 := eq_true p383
              replace q383 := eq_true q383
              go_enter Try.func70, Try.ntmps70
              go_wp2
              repeat (go_quiet (fail); try go_wp2)
              go_ret
              exact ⟨by first | rfl | (simp; done) | (simp [*]; done), by repeat (first | exact Drawn0.refl _ | apply Drawn0.step)⟩
            · rw [if_neg c10] at H
              exact absurd H (by simp)
          · rw [if_neg c9] at H
            exact absurd H (by simp)
        · rw [if_neg c8] at H
          exact absurd H (by simp)
      · rw [if_neg c7] at H
        have c7b0 : ((l0.length : Int) == 3) = false := beq_eq_false_iff_ne.mpr c7
        have c7b1 : ((l0.length : Int) != 3) = true := bne_iff_ne.mpr c7
        by_cases c11 : 0 < (l0.length : Int)
        · rw [if_pos c11] at H
          have c11b0 : decide (0 < (l0.length : Int)) = true := decide_eq_true c11
          have c11b1 : decide (0 < l0.length) = true := decide_eq_true (by omega)
          clear c11
          by_cases c12 : 1 < (l0.length : Int)
          · rw [if_pos c12] at H
            have c12b0 : decide (1 < (l0.length : Int)) = true := decide_eq_true c12
            have c12b1 : decide (1 < l0.length) = true := decide_eq_true (by omega)
            clear c12
            by_cases c13 : 2 < (l0.length : Int)
            · rw [if_pos c13] at H
              have c13b0 : decide (2 < (l0.length : Int)) = true := decide_eq_true c13
              have c13b1 : decide (2 < l0.length) = true := decide_eq_true (by omega)
              clear c13
              by_cases c14 : 3 < (l0.length : Int)
              · rw [if_pos c14] at H
                have c14b0 : decide (3 < (l0.length : Int)) = true := decide_eq_true c14
                have c14b1 : decide (3 < l0.length) = true := decide_eq_true (by omega)
                clear c14
                obtain rfl := Option.some.inj H
                have p384 : 0 ≤ (0 : Int) := (by omega)
                have q384 : 0 < (l0.length : Int) := of_decide_eq_true (by first | (with_reducible assumption) | assumption)
                obtain ⟨ad384, e384, hx384_0⟩ := Kd.at_int HR0.out 0 p384 q384
                cases e384
                have qi384 : (0 < l0.length) = True := eq_true (by omega)
                (try rw [show ((0 : Int)).toNat = 0 from rfl] at hx384_0)
                (try rw [Addr.add_zero'] at hx384_0)
                replace p384 := eq_true p384
                replace q384 := eq_true q384
                have p385 : 0 ≤ (1 : Int) := (by omega)
                have q385 : 1 < (l0.length : Int) := of_decide_eq_true (by first | (with_reducible assumption) | assumption)
                obtain ⟨ad385, e385, hx385_0⟩ := Kd.at_int HR0.out 1 p385 q385
                obtain rfl : ad384 = ad385 := (by injection e385)
                (try simp only [show (1 : Int).toNat = 1 from rfl, Nat.reduceMul, Nat.reduceEqDiff, Go.Addr.add, ↓reduceIte] at hx385_0)
                have qi385 : (1 < l0.length) = True := eq_true (by omega)
                (try rw [show ((1 : Int)).toNat = 1 from rfl] at hx385_0)
                replace p385 := eq_true p385
                replace q385 := eq_true q385
                have p386 : 0 ≤ (2 : Int) := (by omega)
                have q386 : 2 < (l0.length : Int) := of_decide_eq_true (by first | (with_reducible assumption) | assumption)
                obtain ⟨ad386, e386, hx386_0⟩ := Kd.at_int HR0.out 2 p386 q386
                obtain rfl : ad384 = ad386 := (by injection e386)
                (try simp only [show (2 : Int).toNat = 2 from rfl, Nat.reduceMul, Nat.reduceEqDiff, Go.Addr.add, ↓reduceIte] at hx386_0)
                have qi386 : (2 < l0.length) = True := eq_true (by omega)
                (try rw [show ((2 : Int)).toNat = 2 from rfl] at hx386_0)
                replace p386 := eq_true p386
                replace q386 := eq_true q386
                have p387 : 0 ≤ (3 : Int) := (by omega)
                have q387 : 3 < (l0.length : Int) := of_decide_eq_true (by first | (with_reducible assumption) | assumption)
                obtain ⟨ad387, e387, hx387_0⟩ := Kd.at_int HR0.out 3 p387 q387
                obtain rfl : ad384 = ad387 := (by injection e387)
                (try simp only [show (3 : Int).toNat = 3 from rfl, Nat.reduceMul, Nat.reduceEqDiff, Go.Addr.add, ↓reduceIte] at hx387_0)
                have qi387 : (3 < l0.length) = True := eq_true (by omega)
                (try rw [show ((3 : Int)).toNat = 3 from rfl] at hx387_0)
                replace p387 := eq_true p387
                replace q387 := eq_true q387
                go_enter Try.func70, Try.ntmps70
                go_wp2
                repeat (go_quiet (fail); try go_wp2)
                go_ret
                exact ⟨by first | rfl | (simp; done) | (simp [*]; done), by repeat (first | exact Drawn0.refl _ | apply Drawn0.step)⟩
              · rw [if_neg c14] at H
                exact absurd H (by simp)
            · rw [if_neg c13] at H
              exact absurd H (by simp)
          · rw [if_neg c12] at H
            exact absurd H (by simp)
        · rw [if_neg c11] at H
          exact absurd H (by simp)

/-! ### spec_CodePoints: function 50, by hand -/
/-! ### the reference's sequences -/
def seqF : List Int → Nat × Bool
  | [] => (0, false)
  | b :: r => if (needsF b).1 = 0 then (0, false) else ((stretchF (b :: r)).1, (stretchF (b :: r)).2.1)
theorem wrap_n1 (n : Nat) (h : n ≤ 1099511627776) : wrap64 ((n : Int) + 1) = ((n + 1 : Nat) : Int) := by unfold wrap64; omega
theorem wrap_nn (n m : Nat) (h : n ≤ 1099511627776) (h2 : m ≤ 1099511627776) : wrap64 ((n : Int) + (m : Int)) = ((n + m : Nat) : Int) := by unfold wrap64; omega
theorem seq_l0 (l : List Int) (hl : l.length ≤ 1099511627776) (at_ : Nat) (ha : at_ < l.length) (need : Int) (h4 : need ≤ 4) : ∀ (q k n kk : Nat) (lo hi : Int), (kk : Int) + q = need → q < k → 1 ≤ n → n ≤ kk + 1 → spec_l1Seq.l0 k l at_ need lo hi n kk = some (((tlF q n lo hi (l.drop (at_ + n))).1 : Int), (tlF q n lo hi (l.drop (at_ + n))).2.1) := by
  intro q
  induction q with
  | zero =>
    intro k n kk lo hi hw hk h1 hn
    obtain ⟨k, rfl⟩ : ∃ m, k = m + 1 := ⟨k - 1, by omega⟩
    rw [spec_l1Seq.l0, if_neg (by omega)]; first | done | rfl
  | succ q ih =>
    intro k n kk lo hi hw hk h1 hn
    obtain ⟨k, rfl⟩ : ∃ m, k = m + 1 := ⟨k - 1, by omega⟩
    have b1 : n ≤ 1099511627776 := by omega
    have b2 : kk ≤ 1099511627776 := by omega
    have ew := wrap_nn at_ n (by omega) b1
    have hw1 := wrap_n1 n b1
    have hw2 := wrap_n1 kk b2
    have j1 : ((kk + 1 : Nat) : Int) + q = need := by omega
    have j2 : q < k := by omega
    have j3 : n + 1 ≤ kk + 1 + 1 := by omega
    have j4 : (kk : Int) < need := by omega
    rw [spec_l1Seq.l0, if_pos j4, ew]
    clear hw hk hn j4 b1 b2 ew
    by_cases e : l.length ≤ at_ + n
    · have hd : l.drop (at_ + n) = [] := List.drop_of_length_le e
      rw [if_pos (by omega), hd, tlF]
    · have hlt : at_ + n < l.length := by omega
      rw [if_neg (by omega), if_pos (by omega), if_pos (by omega), rd_n1 l (at_ + n) hlt, List.drop_eq_getElem_cons hlt, tlF]
      by_cases c : l[at_ + n] < lo
      · rw [if_pos c, if_pos (.inl c)]
      · by_cases d : l[at_ + n] > hi
        · rw [if_neg c, if_pos d, if_pos (.inr d)]
        · rw [if_neg c, if_neg d, if_neg (by omega)]
          rw [hw1, hw2]
          have := ih k (n + 1) (kk + 1) 128 191 j1 j2 (Nat.le_add_left 1 n) j3
          rw [show at_ + (n + 1) = at_ + n + 1 from rfl] at this
          exact this
set_option maxHeartbeats 4000000 in
theorem seq_spec (l : List Int) (hl : l.length ≤ 1099511627776) (at_ : Nat) (ha : at_ < l.length) : spec_l1Seq.f 12 l at_ = some (((seqF (l.drop at_)).1 : Int), (seqF (l.drop at_)).2) := by
  have hd := List.drop_eq_getElem_cons ha
  have key : ∀ (k : Nat) (need : Int) (lo hi : Int), 1 ≤ need → need ≤ 3 → 4 ≤ k → needsF l[at_] = (need + 1, lo, hi) → spec_l1Seq.l0 k l at_ need lo hi 1 0 = some (((seqF (l.drop at_)).1 : Int), (seqF (l.drop at_)).2) := by
    intro k need lo hi h1 h3 hk hn
    have := seq_l0 l hl at_ ha need (by omega) need.toNat k 1 0 lo hi (by omega) (by omega) (Nat.le_refl _) (Nat.le_refl _)
    rw [hd, seqF, stretchF, hn]
    dsimp only
    rw [if_neg (by omega), if_neg (by omega)]
    have e : (need + 1).toNat - 1 = need.toNat := by omega
    rw [e]
    exact this
  rw [spec_l1Seq.f, if_pos (by omega), if_pos (by omega), rd_n1 l at_ ha]
  have hs : ∀ b : Int, b = l[at_] → l[at_] = b := fun _ h => h.symm
  obtain ⟨b, hb⟩ : ∃ b, b = l[at_] := ⟨_, rfl⟩
  rw [← hb] at key ⊢
  have kk := hb
  simp only [spec_l1Seq.j0, spec_l1Seq.j1, spec_l1Seq.j2, spec_l1Seq.j3, decide_eq_true_eq, Bool.false_eq_true, if_false]
  by_cases c1 : b < 128
  · rw [if_pos c1, hd, ← hb, seqF, stretchF]
    have hn : needsF b = (1, 0, 0) := by unfold needsF; rw [if_pos c1]
    rw [hn]
    first | done | rfl
  by_cases c2 : 194 ≤ b ∧ b ≤ 223
  · rw [if_neg c1, if_pos (by omega), if_pos (by omega)]
    exact key _ 1 128 191 (by omega) (by omega) (by omega) (by unfold needsF; rw [if_neg c1, if_pos c2]; rfl)
  by_cases c3 : b = 224
  · subst c3
    rw [if_neg c1, if_pos (by omega), if_neg (by omega), if_pos (by omega), if_pos (by omega), if_pos rfl, if_neg (by omega)]
    exact key _ 2 160 191 (by omega) (by omega) (by omega) (by decide)
  by_cases c4 : b = 237
  · subst c4
    rw [if_neg c1, if_pos (by omega), if_neg (by omega), if_pos (by omega), if_pos (by omega), if_neg (by omega), if_pos rfl]
    exact key _ 2 128 159 (by omega) (by omega) (by omega) (by decide)
  by_cases c5 : 225 ≤ b ∧ b ≤ 239
  · rw [if_neg c1, if_pos (by omega), if_neg (by omega), if_pos (by omega), if_pos (by omega), if_neg c3, if_neg c4]
    exact key _ 2 128 191 (by omega) (by omega) (by omega) (by unfold needsF; rw [if_neg c1, if_neg c2, if_neg c3, if_neg c4, if_pos c5]; rfl)
  by_cases c6 : b = 240
  · subst c6
    rw [if_neg c1, if_pos (by omega), if_neg (by omega), if_pos (by omega), if_neg (by omega), if_pos (by omega), if_pos (by omega), if_pos rfl, if_neg (by omega)]
    exact key _ 3 144 191 (by omega) (by omega) (by omega) (by decide)
  by_cases c7 : b = 244
  · subst c7
    rw [if_neg c1, if_pos (by omega), if_neg (by omega), if_pos (by omega), if_neg (by omega), if_pos (by omega), if_pos (by omega), if_neg (by omega), if_pos rfl]
    exact key _ 3 128 143 (by omega) (by omega) (by omega) (by decide)
  by_cases c8 : 241 ≤ b ∧ b ≤ 243
  · rw [if_neg c1, if_pos (by omega), if_neg (by omega), if_pos (by omega), if_neg (by omega), if_pos (by omega), if_pos (by omega), if_neg c6, if_neg c7]
    exact key _ 3 128 191 (by omega) (by omega) (by omega) (by unfold needsF; rw [if_neg c1, if_neg c2, if_neg c3, if_neg c4, if_neg c5, if_neg c6, if_neg c7, if_pos c8]; rfl)
  · have hn : needsF b = (0, 0, 0) := by unfold needsF; rw [if_neg c1, if_neg c2, if_neg c3, if_neg c4, if_neg c5, if_neg c6, if_neg c7, if_neg c8]
    rw [hd, ← hb, seqF, hn, if_neg c1]
    by_cases d : b ≥ 194
    · have : b ≥ 245 := by omega
      rw [if_pos d, if_neg (by omega), if_pos (by omega), if_neg (by omega), if_pos (by omega), if_neg (by omega)]
      first | done | rfl
    · rw [if_neg d, if_neg (by omega), if_neg (by omega)]
      first | done | rfl
/-! ### the reference's code points -/
def ptF (l : List Int) : Int := (spec_l1Point.f l).getD 0
theorem pt_some (l : List Int) (h1 : 1 ≤ l.length) (h4 : l.length ≤ 4) : spec_l1Point.f l = some (ptF l) := by
  have hs : ∃ v, spec_l1Point.f l = some v := by
    unfold spec_l1Point.f
    match l, h1, h4 with
    | [a], _, _ => exact ⟨_, rfl⟩
    | [a, b], _, _ => exact ⟨_, rfl⟩
    | [a, b, c], _, _ => exact ⟨_, rfl⟩
    | [a, b, c, d], _, _ => exact ⟨_, rfl⟩
  obtain ⟨v, hv⟩ := hs
  unfold ptF
  rw [hv]; rfl
def cpU : Nat → List Int → List Int
  | 0, _ => []
  | _ + 1, [] => []
  | k + 1, b :: r => (if (stretchF (b :: r)).2.1 = true then ptF ((b :: r).take (stretchF (b :: r)).1) else 65533) :: cpU k ((b :: r).drop (stretchF (b :: r)).1)
theorem cpU_cons (k : Nat) (l : List Int) (h : l ≠ []) : cpU (k + 1) l = (if (stretchF l).2.1 = true then ptF (l.take (stretchF l).1) else 65533) :: cpU k (l.drop (stretchF l).1) := by
  cases l with
  | nil => exact absurd rfl h
  | cons b r => rfl
theorem cpU_nil (k : Nat) : cpU k [] = [] := by cases k <;> rfl
theorem seq_st (l : List Int) (h : l ≠ []) : ((seqF l).2 = (stretchF l).2.1) ∧ ((seqF l).1 = (stretchF l).1 ∨ ((seqF l).1 = 0 ∧ (seqF l).2 = false ∧ (stretchF l).1 = 1)) := by
  cases l with
  | nil => exact absurd rfl h
  | cons b r =>
    rw [seqF]
    by_cases c : (needsF b).1 = 0
    · rw [if_pos c]
      have e : stretchF (b :: r) = (1, false, false) := by rw [stretchF, if_pos c]
      rw [e]
      exact ⟨rfl, .inr ⟨rfl, rfl, rfl⟩⟩
    · rw [if_neg c]
      exact ⟨rfl, .inl rfl⟩
/-- A block of another type is no row of ours, frozen or not. -/
theorem ne35 {w : World} {b : Nat} {ok : Nat → Prop} {v : Value} {xs : List Int} {g : Nat} {cs : Array Value} {fz : Nat × Nat} (h : Kd.R (Kd.int .i64) 3 w b ok v xs) (hg : w.heap[g]? = some (.cells cs 5 fz)) : some g ≠ v.ownBlock := by
  intro e
  obtain ⟨cells, hc⟩ := Kd.R_typed h g e.symm
  rw [hg] at hc
  cases hc
theorem C_of_cells {w : World} {g : Nat} {s : ByteArray} {fz : Nat × Nat} {W : World} (hg : w.heap[g]? = some (.cells (Lib.bytesCells W 5 s) 5 fz)) (hs : s.size ≤ 9223372036854775807) : Kd.C (Kd.int .u8) w (some ⟨g, 0, none⟩) (bytesOf s).length (bytesOf s) := by
  rw [bytesOf_length]
  refine Kd.C_of_reads (d := (0 : Int)) ⟨bytesOf_length s, hs, fun _ => ⟨_, rfl, fun j hj => ?_⟩⟩
  rw [add_plain]
  have h' : j < s.data.toList.length := by rw [data_length]; exact hj
  simp [World.cell?, hg, Lib.bytesCells, Array.getElem?_append, bytesOf, hj, List.getD_eq_getElem?_getD, List.getElem?_eq_getElem h']
set_option maxHeartbeats 8000000 in
set_option maxRecDepth 100000 in
theorem scps_calls (s : ByteArray) (w : World) (hs : s.size ≤ 1099511627776) :
    Calls Try.prog 50 #[.string s] w fun e w' => ∃ v0_ : Value, e = .returned v0_ ∧ Kd.R (Kd.int .i64) 3 w' w.heap.size (fun _ => True) v0_ (cpU s.size (bytesOf s)) ∧ Below w.heap.size w w' := by
  have hu9 := Try.underlying9
  have hu29 := Try.underlying22
  have HS := Aside0.mk hs
  clear hs
  have HB := Aside0.mk (Below.refl w.heap.size w)
  have hcv := fun W => print_bytes (P := Try.prog) 9 22 5 Try.underlying9 Try.underlying22 Try.underlying5 s W
  have HN := Aside0.mk (Lib.bytesWorld_at_new w 5 s)
  have HB1 := Aside0.mk (bytes_below (Below.refl w.heap.size w) (Nat.le_refl _) 5 s)
  have HCZ0 := Aside0.mk (grownCap_ge w s.size 0 5)
  obtain ⟨cZ, hcZ⟩ : ∃ cZ, cZ = grownCap w s.size 0 5 := ⟨_, rfl⟩
  rw [← hcZ] at HCZ0
  go_enter Try.func50, Try.ntmps50
  go_wp2_with (first | ((with_reducible refine gate_dst (N := 10) rfl ?_); rw [← hcZ]; clear hcZ hcv; generalize Lib.bytesWorld w 5 s = w2 at HN HB1 ⊢; refine Kd.R_lit (Kd.int .i64) _ 3 ?hg (N := 10) ?hd (xs := ([] : List Int)) (inner := []) (ok := fun _ => True) (okp := fun _ => True) ?hr ?hp (fun _ hk => hk) trivial (Below.refl _ _) (Nat.le_refl _) (by simp) ?_; (case hd => rfl); (case hg => rfl); (case hr => first | (go_simp; done) | (go_simp; rfl)); (case hp => exact (Reps.none _ _)); intro v3 w3 ho3 hb hg_ hnew_; clear hg_ hnew_; have HO1 := Aside0.mk (Kd.R_lower ho3 (below_size HB1.out)); have HB2 := Aside0.mk (below_step HB1.out hb); have HZ1 := Aside0.mk (blk_below HN.out hb); clear HB HB1 HN hb ho3))
  go_loopg [4, 5] s.size (fun kq v4 v5 w' => ∃ (at_ : Nat) (xs : List Int), v5 = .int .i64 (at_ : Int) ∧ Aside0 (at_ ≤ s.size) ∧ Aside0 (s.size - at_ ≤ kq) ∧ Aside0 (xs.length ≤ at_) ∧ Aside0 (xs ++ cpU kq ((bytesOf s).drop at_) = cpU s.size (bytesOf s)) ∧ Aside0 (w'.heap[(w.heap.size)]? = some (.cells (Lib.bytesCells w 5 s) 5 ((Lib.bytesCells w 5 s).size, (Lib.bytesCells w 5 s).size + 1))) ∧ Aside0 (Kd.R (Kd.int .i64) 3 w' w.heap.size (fun _ => True) v4 xs) ∧ Aside0 (Below w.heap.size w w'))
  case atStart => exact ⟨0, [], rfl, ⟨Nat.zero_le _⟩, ⟨by omega⟩, ⟨Nat.le_refl _⟩, ⟨rfl⟩, HZ1, HO1, HB2⟩
  case round =>
    clear HZ1 HO1 HB2
    obtain ⟨at_, xs, rfl, HAT, HK, HX, HE, HZ, HO, HB⟩ := hrel
    by_cases c : at_ < s.size
    · have c1 : decide ((at_ : Int) < (s.size : Int)) = true := decide_eq_true (by omega)
      have c1n : decide (at_ < s.size) = true := decide_eq_true c
      have hk : gk ≠ 0 := by have := HK.out; omega
      obtain ⟨k1, rfl⟩ := Nat.exists_eq_succ_of_ne_zero hk
      clear hk
      have hbl := bytesOf_length s
      have hlen : ((bytesOf s).drop at_).length = s.size - at_ := by rw [List.length_drop, hbl]
      have hne : (bytesOf s).drop at_ ≠ [] := by intro z; rw [z] at hlen; simp at hlen; omega
      have HE1 := HE.out
      rw [cpU_cons k1 _ hne] at HE1
      have hsb := stretch_bd _ hne
      have hst := seq_st _ hne
      have hsq := seq_spec (bytesOf s) (by rw [hbl]; exact HS.out) at_ (by omega)
      have HRW := Aside0.mk (C_of_cells HZ.out (by have := HS.out; omega))
      have HCB : Aside0 ((bytesOf s).length ≤ cZ) := ⟨by rw [hbl]; exact HCZ0.out⟩
      rw [hlen] at hsb
      obtain ⟨n, hn⟩ : ∃ n, n = (stretchF ((bytesOf s).drop at_)).1 := ⟨_, rfl⟩
      obtain ⟨wh, hwh⟩ : ∃ wh, wh = (stretchF ((bytesOf s).drop at_)).2.1 := ⟨_, rfl⟩
      obtain ⟨sn, hsn⟩ : ∃ sn, sn = (seqF ((bytesOf s).drop at_)).1 := ⟨_, rfl⟩
      rw [← hn, ← hwh] at HE1
      rw [← hn] at hsb
      rw [← hn, ← hwh, ← hsn] at hst
      rw [← hsn, hst.1] at hsq
      have HSQ := Aside0.mk hsq
      have hst2 := hst.2
      rw [hst.1] at hst2
      have HD : Aside0 (((bytesOf s).drop at_).drop n = (bytesOf s).drop (at_ + n)) := ⟨by rw [List.drop_drop]⟩
      rw [HD.out] at HE1
      have HC := Aside0.mk c
      have HSB := Aside0.mk hsb
      have hm2 : wrap64 ((at_ : Int) + (n : Int)) = ((at_ + n : Nat) : Int) := wrap_nn at_ n (by have := HS.out; omega) (by have := HS.out; omega)
      have HM2 := Aside0.mk hm2
      clear hn hwh hsn hst hsq HE c hm2
      cases wh with
      | true =>
        have e1 : sn = n := by rcases hst2 with z | z; exact z; cases z.2.1
        subst e1
        rw [if_pos rfl] at HE1
        obtain ⟨m, hm⟩ : ∃ m, m = ((bytesOf s).drop at_).take sn := ⟨_, rfl⟩
        rw [← hm] at HE1
        have hml : m.length = sn := by rw [hm, List.length_take, hlen]; omega
        have HML := Aside0.mk hml
        have HCM : Aside0 (m.length ≤ cZ - at_) := ⟨by rw [hml]; have := HCZ0.out; omega⟩
        have HPT := Aside0.mk (pt_some m (by omega) (by omega))
        obtain ⟨pv, hpv⟩ : ∃ pv, pv = ptF m := ⟨_, rfl⟩
        rw [← hpv] at HPT HE1
        clear hpv
        have HE2 : Aside0 ((xs ++ [pv]) ++ cpU k1 ((bytesOf s).drop (at_ + sn)) = cpU s.size (bytesOf s)) := ⟨by rw [List.append_assoc]; exact HE1⟩
        obtain ⟨i0, hi0, _, hz1, _⟩ := info_parts infoB
        have hcut := cut_mid (P := Try.prog) 22 5 .i64 .i64 Try.underlying22 hi0 1 hz1 (some ⟨w.heap.size, 0, none⟩) s.size cZ (at_ : Int) (wrap64 ((at_ : Int) + (sn : Int))) (by omega) (by rw [HM2.out]; omega) (by rw [HM2.out]; omega) HCZ0.out
        have e3 : (wrap64 ((at_ : Int) + (sn : Int))).toNat - (at_ : Int).toNat = sn := by rw [HM2.out, Int.toNat_natCast, Int.toNat_natCast, Nat.add_sub_cancel_left]
        rw [e3, Int.toNat_natCast] at hcut
        obtain ⟨AM, hAM⟩ : ∃ AM, AM = (if cZ = at_ then (some ⟨w.heap.size, 0, none⟩ : Option Addr) else (some ⟨w.heap.size, 0, none⟩ : Option Addr).map (·.add (at_ * 1))) := ⟨_, rfl⟩
        have hd1 : Kd.C (Kd.int .u8) wr AM ((bytesOf s).drop at_).length ((bytesOf s).drop at_) := by
          rw [hAM]
          exact Kd.C_drop (k := Kd.int .u8) (m := at_) (c := cZ) HRW.out (by rw [hbl]; exact HAT.out) HCB.out
        have hM : Kd.C (Kd.int .u8) wr AM m.length m := by
          rw [hm]
          exact Kd.C_take (k := Kd.int .u8) (m := sn) hd1 (by rw [hlen]; exact hsb.2.1)
        rw [← hAM] at hcut
        have HM := Aside0.mk hM
        clear hM hd1 hAM e3 hml hm HE1 hst2 hlen hne hbl hsb hi0 hz1
        go_wp2_with (first | (go_at_call 67; have hq := spec_l1Seq.calls 12 (some ⟨w.heap.size, 0, none⟩) cZ (bytesOf s) (at_ : Int) (sn : Int) true wr HRW.out HCB.out HSQ.out; rw [bytesOf_length] at hq; (with_reducible refine hq.mono ?_); clear hq; rintro e w' ⟨rfl, ⟨nd, rfl⟩⟩) | (go_at_call 70; have hq := spec_l1Point.calls AM (cZ - at_) m (pv) _ (Kd.C_drewN HM.out nd) HCM.out HPT.out; rw [HML.out] at hq; (with_reducible refine hq.mono ?_); clear hq; rintro e w' ⟨rfl, ⟨nd2, rfl⟩⟩) | ((with_reducible refine gate_builtin (b := .append) (xs := #[.tmp 22, .tmp 30]) rfl ?_); at_builtin; refine Kd.R_append (Kd.int .i64) (w0 := w) w.heap.size rfl (.tmp 22) (.tmp 30) 24 3 (.int .i64 0) 8 rfl Try.underlying24 info3 rfl (by decide) (by omega) u4 xs (pv) [.int .i64 (pv)] (fun _ => True) (fun _ => False) rfl rfl ?aP (fun _ hk => hk.elim) ?aF ?aO ?aB ?aS ?aL ?_; (case aP => exact rfl); (case aB => exact (by repeat (first | (with_reducible first | exact HB.out | apply below_alloc | apply pw_below_drewN | apply below_drew1) | exact HB.out))); (case aF => exact (fun _ _ => trivial)); (case aO => exact (by (with_reducible repeat (first | apply Kd.R_alloc | apply Kd.R_drewN | apply Kd.R_drew)); exact HO.out)); (case aS => exact (below_size (by repeat (first | (with_reducible first | exact HB.out | apply below_alloc | apply pw_below_drewN | apply below_drew1) | exact HB.out)))); (case aL => have h1 := HX.out; have h2 := HAT.out; have h3 := HS.out; omega); intro v7 w7 ho hb hg hat; have HO3 := Aside0.mk ho; have HB3 := Aside0.mk hb; have HZ3 : Aside0 (w7.heap[(w.heap.size)]? = some (.cells (Lib.bytesCells w 5 s) 5 ((Lib.bytesCells w 5 s).size, (Lib.bytesCells w 5 s).size + 1))) := ⟨blk_grown (by repeat (first | exact HZ.out | apply blk_alloc | apply blk_drewN)) hg (ne35 HO.out HZ.out)⟩; clear ho hb hg hat))
        clear hcut
        go_roundg k1
        case measure => omega
        case rel => exact ⟨at_ + sn, xs ++ [pv], congrArg (Value.int .i64) HM2.out, ⟨by have := HSB.out; omega⟩, ⟨by have := HK.out; have := HSB.out; omega⟩, ⟨by have := HX.out; have := HSB.out; simp; omega⟩, HE2, HZ3, HO3, HB3⟩
      | false =>
        rw [if_neg (by simp)] at HE1
        have HE2 : Aside0 ((xs ++ [65533]) ++ cpU k1 ((bytesOf s).drop (at_ + n)) = cpU s.size (bytesOf s)) := ⟨by rw [List.append_assoc]; exact HE1⟩
        clear HE1 hlen hne hbl hsb
        by_cases z : sn = 0
        · have z1 : ((sn : Int) == 0) = true := by simp [z]
          have hn1 : n = 1 := by rcases hst2 with q | q; (have := HSB.out; omega); exact q.2.2
          subst hn1
          clear z hst2
          go_wp2_with (first | (go_at_call 67; have hq := spec_l1Seq.calls 12 (some ⟨w.heap.size, 0, none⟩) cZ (bytesOf s) (at_ : Int) (sn : Int) false wr HRW.out HCB.out HSQ.out; rw [bytesOf_length] at hq; (with_reducible refine hq.mono ?_); clear hq; rintro e w' ⟨rfl, ⟨nd, rfl⟩⟩) | ((with_reducible refine gate_builtin (b := .append) (xs := #[.tmp 37, .tmp 38]) rfl ?_); at_builtin; refine Kd.R_append (Kd.int .i64) (w0 := w) w.heap.size rfl (.tmp 37) (.tmp 38) 24 3 (.int .i64 0) 8 rfl Try.underlying24 info3 rfl (by decide) (by omega) u4 xs (65533) [.int .i64 (65533)] (fun _ => True) (fun _ => False) rfl rfl ?aP (fun _ hk => hk.elim) ?aF ?aO ?aB ?aS ?aL ?_; (case aP => exact rfl); (case aB => exact (by repeat (first | (with_reducible first | exact HB.out | apply below_alloc | apply pw_below_drewN | apply below_drew1) | exact HB.out))); (case aF => exact (fun _ _ => trivial)); (case aO => exact (by (with_reducible repeat (first | apply Kd.R_alloc | apply Kd.R_drewN | apply Kd.R_drew)); exact HO.out)); (case aS => exact (below_size (by repeat (first | (with_reducible first | exact HB.out | apply below_alloc | apply pw_below_drewN | apply below_drew1) | exact HB.out)))); (case aL => have h1 := HX.out; have h2 := HAT.out; have h3 := HS.out; omega); intro v7 w7 ho hb hg hat; have HO3 := Aside0.mk ho; have HB3 := Aside0.mk hb; have HZ3 : Aside0 (w7.heap[(w.heap.size)]? = some (.cells (Lib.bytesCells w 5 s) 5 ((Lib.bytesCells w 5 s).size, (Lib.bytesCells w 5 s).size + 1))) := ⟨blk_grown (by repeat (first | exact HZ.out | apply blk_alloc | apply blk_drewN)) hg (ne35 HO.out HZ.out)⟩; clear ho hb hg hat))
          go_roundg k1
          case measure => omega
          case rel => exact ⟨at_ + 1, xs ++ [65533], congrArg (Value.int .i64) HM2.out, ⟨by have := HSB.out; omega⟩, ⟨by have := HK.out; have := HSB.out; omega⟩, ⟨by have := HX.out; have := HSB.out; simp; omega⟩, HE2, HZ3, HO3, HB3⟩
        · have z1 : ((sn : Int) == 0) = false := beq_eq_false_iff_ne.mpr (by omega)
          have hn1 : sn = n := by rcases hst2 with q | q; exact q; exact absurd q.1 z
          subst hn1
          clear z hst2
          go_wp2_with (first | (go_at_call 67; have hq := spec_l1Seq.calls 12 (some ⟨w.heap.size, 0, none⟩) cZ (bytesOf s) (at_ : Int) (sn : Int) false wr HRW.out HCB.out HSQ.out; rw [bytesOf_length] at hq; (with_reducible refine hq.mono ?_); clear hq; rintro e w' ⟨rfl, ⟨nd, rfl⟩⟩) | ((with_reducible refine gate_builtin (b := .append) (xs := #[.tmp 37, .tmp 38]) rfl ?_); at_builtin; refine Kd.R_append (Kd.int .i64) (w0 := w) w.heap.size rfl (.tmp 37) (.tmp 38) 24 3 (.int .i64 0) 8 rfl Try.underlying24 info3 rfl (by decide) (by omega) u4 xs (65533) [.int .i64 (65533)] (fun _ => True) (fun _ => False) rfl rfl ?aP (fun _ hk => hk.elim) ?aF ?aO ?aB ?aS ?aL ?_; (case aP => exact rfl); (case aB => exact (by repeat (first | (with_reducible first | exact HB.out | apply below_alloc | apply pw_below_drewN | apply below_drew1) | exact HB.out))); (case aF => exact (fun _ _ => trivial)); (case aO => exact (by (with_reducible repeat (first | apply Kd.R_alloc | apply Kd.R_drewN | apply Kd.R_drew)); exact HO.out)); (case aS => exact (below_size (by repeat (first | (with_reducible first | exact HB.out | apply below_alloc | apply pw_below_drewN | apply below_drew1) | exact HB.out)))); (case aL => have h1 := HX.out; have h2 := HAT.out; have h3 := HS.out; omega); intro v7 w7 ho hb hg hat; have HO3 := Aside0.mk ho; have HB3 := Aside0.mk hb; have HZ3 : Aside0 (w7.heap[(w.heap.size)]? = some (.cells (Lib.bytesCells w 5 s) 5 ((Lib.bytesCells w 5 s).size, (Lib.bytesCells w 5 s).size + 1))) := ⟨blk_grown (by repeat (first | exact HZ.out | apply blk_alloc | apply blk_drewN)) hg (ne35 HO.out HZ.out)⟩; clear ho hb hg hat))
          go_roundg k1
          case measure => omega
          case rel => exact ⟨at_ + sn, xs ++ [65533], congrArg (Value.int .i64) HM2.out, ⟨by have := HSB.out; omega⟩, ⟨by have := HK.out; have := HSB.out; omega⟩, ⟨by have := HX.out; have := HSB.out; simp; omega⟩, HE2, HZ3, HO3, HB3⟩
    · have c1 : decide ((at_ : Int) < (s.size : Int)) = false := decide_eq_false (by omega)
      have c1n : decide (at_ < s.size) = false := decide_eq_false c
      have HE2 : Aside0 (xs = cpU s.size (bytesOf s)) := ⟨by have := HE.out; rwa [List.drop_of_length_le (by rw [bytesOf_length]; omega), cpU_nil, List.append_nil] at this⟩
      clear HE c
      go_wp2
      go_ret
      exact ⟨_, rfl, by rw [← HE2.out]; exact HO.out, HB.out⟩
def spec_CodePoints.f (a0 : ByteArray) : Option (List Int) := if a0.size ≤ 1099511627776 then some (cpU a0.size (bytesOf a0)) else none
theorem spec_CodePoints.calls (a0 : ByteArray) (r : List Int) (w : World) (h : spec_CodePoints.f a0 = some r) :
    Calls Try.prog 50 #[.string a0] w fun e w' => ∃ v0_ : Value, e = .returned (v0_) ∧ Kd.R (Kd.int .i64) 3 w' w.heap.size (fun _ => True) v0_ r ∧ Below w.heap.size w w' := by
  unfold spec_CodePoints.f at h
  by_cases c : a0.size ≤ 1099511627776
  · rw [if_pos c] at h
    obtain rfl := Option.some.inj h
    exact scps_calls a0 w c
  · rw [if_neg c] at h
    cases h

end Go.Proofs.Ytmffcjjodkggcaa.MFnPoints
