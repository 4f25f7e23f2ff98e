-- Written by this session's own program (wip/gen/myprint.py).
import Derived.Test.YtmffcjjodkggcaaProg
import Derived.Below
import Derived.Deep.Draws
import Derived.Deep.AppendLies
import Derived.Maps.AppendAt
import Derived.OwnWalk
import Derived.Laws.BytesArg
import Derived.Laws.MakeOwn
import Derived.Laws.OwnMore
import Derived.Deep.OwnRows
import Derived.Tactics
import Derived.Lib.ConvBytes
import Derived.Laws.Slices
import Derived.WalkKit
import Derived.KernelRfl
import Derived.RowKit3
import Derived.Deep.LoopGhost
import Derived.Deep.QuietTactic
import Derived.BigQuiet
import Derived.WideLaws
import Derived.Deep.DeepCutAuto
import Derived.Deep.CutBlock
import Derived.Deep.RegionHeld3
import Derived.Laws.Rows
import Derived.Lib.AppendStr
import Derived.ArgAppend
import Derived.Laws.IdiomCopy
import Derived.OrdersHeld
import Derived.Laws.BitsLemmas
import Derived.RowKit
import Derived.Handy
import Derived.Laws.Externs
import Derived.Laws.RangeAny
import Derived.Lib.Builder
import Derived.Lib.OthersKept
import Derived.Lib.RuneBytes
import Derived.Test.YtmffcjjodkggcaaShelf
import Derived.Test.YtmffcjjodkggcaaWWords
import Derived.Test.YtmffcjjodkggcaaWLast
import Derived.Test.YtmffcjjodkggcaaWTab
import Derived.Test.YtmffcjjodkggcaaWFour
import Derived.Test.YtmffcjjodkggcaaWQPut
import Derived.Test.YtmffcjjodkggcaaWApart
import Derived.Test.YtmffcjjodkggcaaWArr
import Derived.Test.YtmffcjjodkggcaaWZeros
import Derived.Test.YtmffcjjodkggcaaWFoot
import Derived.Test.YtmffcjjodkggcaaWKept
import Derived.Test.YtmffcjjodkggcaaWShare
import Derived.Test.YtmffcjjodkggcaaWN
import Derived.Test.YtmffcjjodkggcaaWFootNe
import Derived.Test.YtmffcjjodkggcaaWAt
import Derived.Test.YtmffcjjodkggcaaWEqStruct
import Derived.Test.YtmffcjjodkggcaaWRepsOne
import Derived.Test.YtmffcjjodkggcaaWInv
import Derived.Test.YtmffcjjodkggcaaWInvWords
import Derived.Test.YtmffcjjodkggcaaWGuard
import Derived.Test.YtmffcjjodkggcaaWNEv
import Derived.Test.YtmffcjjodkggcaaWMore
namespace Go.Proofs.Ytmffcjjodkggcaa.MFnExactFeedEnd
open Go.RowKit Go.Proofs.YtmffcjjodkggcaaW.PrintWords Go.Proofs.YtmffcjjodkggcaaW.PrintLast Go.Proofs.YtmffcjjodkggcaaW.PrintMore
attribute [local go_sem] max2_int min2_int max_two min_two max_three min_three max_four min_four   -- for this text's walks alone
set_option linter.unusedVariables false
set_option linter.unusedSimpArgs false



def errW : Option Int → Value
  | none => .nilIface
  | some c => .iface 0 (.int .i64 c)
theorem errW_none : errW none = .nilIface := rfl
theorem errW_some (c : Int) : errW (some c) = .iface 0 (.int .i64 c) := rfl

theorem info3 : (Try.prog.info? 3).map (fun i => (i.zero, i.size, i.bytes)) = some (some (.int .i64 0), 1, 8) := by kernel_rfl
theorem info5 : (Try.prog.info? 5).map (fun i => (i.zero, i.size, i.bytes)) = some (some (.int .u8 0), 1, 1) := by kernel_rfl
-- the values' own types
def rd_L2 (xs : List (List Int)) (i : Int) : (List Int) := xs.getD i.toNat ([] : List Int)
theorem at_L2 {w : World} {A : Option Addr} {n : Nat} {xs : List (List Int)} (h : Kd.C (Kd.slice 3 (Kd.int .i64)) w A n xs) (i : Int) (h0 : 0 ≤ i) (h1 : i < n) : ∃ ad A0 c0, A = some ad ∧ w.cell? (ad.add i.toNat) = some (.slice A0 (rd_L2 xs i).length c0) ∧ (rd_L2 xs i).length ≤ c0 ∧ (Kd.int .i64).C w A0 (rd_L2 xs i).length (rd_L2 xs i) := by
  obtain ⟨ad, c, e, _, hK, hc0⟩ := Kd.C_get h ([] : List Int) i h0 h1
  have hc : ∀ j u, c[j]? = some u → w.cell? (ad.add (i.toNat * 1 + j)) = some u := hc0
  obtain ⟨A0, c0, rfl, l0, g0⟩ := hK
  exact ⟨ad, A0, c0, e, by have hq := hc 0 _ rfl; rwa [Nat.mul_one, Nat.add_zero] at hq, l0, g0⟩

def rd_L3 (xs : List (List Int)) (i : Int) : (List Int) := xs.getD i.toNat ([] : List Int)
theorem at_L3 {w : World} {A : Option Addr} {n : Nat} {xs : List (List Int)} (h : Kd.C (Kd.slice 5 (Kd.int .u8)) w A n xs) (i : Int) (h0 : 0 ≤ i) (h1 : i < n) : ∃ ad A0 c0, A = some ad ∧ w.cell? (ad.add i.toNat) = some (.slice A0 (rd_L3 xs i).length c0) ∧ (rd_L3 xs i).length ≤ c0 ∧ (Kd.int .u8).C w A0 (rd_L3 xs i).length (rd_L3 xs i) := by
  obtain ⟨ad, c, e, _, hK, hc0⟩ := Kd.C_get h ([] : List Int) i h0 h1
  have hc : ∀ j u, c[j]? = some u → w.cell? (ad.add (i.toNat * 1 + j)) = some u := hc0
  obtain ⟨A0, c0, rfl, l0, g0⟩ := hK
  exact ⟨ad, A0, c0, e, by have hq := hc 0 _ rfl; rwa [Nat.mul_one, Nat.add_zero] at hq, l0, g0⟩

/-! #### struct type 38 -/
structure S38 where
  f0 : Int
  f1 : Bool
  f2 : (List Int)
def z38 : S38 := ⟨(0 : Int), false, ([] : List Int)⟩
def k38 : Kd S38 := Kd.iso (Kd.pair (Kd.int .i64) (Kd.pair Kd.bool (Kd.slice 5 (Kd.int .u8)))) (fun x : S38 => (x.f0, x.f1, x.f2))
theorem k38_open {w : World} {x : S38} {cs : List Value} (h : k38.K w x cs) : ∃ A2 c2, cs = [.int .i64 x.f0, .bool x.f1, .slice A2 x.f2.length c2] ∧ x.f2.length ≤ c2 ∧ (Kd.int .u8).C w A2 x.f2.length x.f2 := by
  obtain ⟨_, _, rfl, rfl, ⟨_, _, rfl, rfl, ⟨A2, c2, rfl, l2, g2⟩⟩⟩ := h
  exact ⟨A2, c2, rfl, l2, g2⟩
theorem k38_openM {w : World} {base : Nat} {ok : Nat → Prop} {x : S38} {cs : List Value} (h : k38.M w base ok x cs) : ∃ v2, cs = [.int .i64 x.f0, .bool x.f1, v2] ∧ (Kd.int .u8).R 5 w base ok v2 x.f2 := by
  obtain ⟨_, _, rfl, rfl, ⟨_, _, rfl, rfl, ⟨v2, rfl, g2⟩⟩⟩ := h
  exact ⟨v2, rfl, g2⟩
theorem k38_mk (w : World) (x : S38) {A2 : Option Addr} {c2 : Nat} (l2 : x.f2.length ≤ c2) (g2 : (Kd.int .u8).C w A2 x.f2.length x.f2) : k38.K w x [.int .i64 x.f0, .bool x.f1, .slice A2 x.f2.length c2] := ⟨[.int .i64 x.f0], [.bool x.f1, .slice A2 x.f2.length c2], rfl, rfl, ⟨[.bool x.f1], [.slice A2 x.f2.length c2], rfl, rfl, ⟨A2, c2, rfl, l2, g2⟩⟩⟩
theorem k38_mkM (w : World) (base : Nat) (ok : Nat → Prop) (x : S38) {v2 : Value} (g2 : (Kd.int .u8).R 5 w base ok v2 x.f2) : k38.M w base ok x [.int .i64 x.f0, .bool x.f1, v2] := ⟨[.int .i64 x.f0], [.bool x.f1, v2], rfl, rfl, ⟨[.bool x.f1], [v2], rfl, rfl, ⟨v2, rfl, g2⟩⟩⟩
theorem k38_openF {W : World} {ok : Nat → Prop} {x : S38} {cs : List Value} (h : Kd.FK k38 W ok x cs) : ∃ A2 c2, cs = [.int .i64 x.f0, .bool x.f1, .slice A2 x.f2.length c2] ∧ x.f2.length ≤ c2 ∧ Kd.F (Kd.int .u8) W ok A2 x.f2.length x.f2 := by
  obtain ⟨A2, c2, rfl, l2, _⟩ := k38_open (Kd.FK_now h)
  exact ⟨A2, c2, rfl, l2, (fun W' hW => by obtain ⟨A2_, c2_, he, l2_, g2_⟩ := k38_open (h W' hW); injection (Option.some.inj (show some (Value.slice A2 x.f2.length c2) = some (Value.slice A2_ x.f2.length c2_) from congrArg (fun l => l[2]?) he)) with ha_ _ _; rw [ha_]; exact g2_)⟩
theorem k38_mkF (W : World) (ok : Nat → Prop) (x : S38) {A2 : Option Addr} {c2 : Nat} (l2 : x.f2.length ≤ c2) (g2 : Kd.F (Kd.int .u8) W ok A2 x.f2.length x.f2) : Kd.FK k38 W ok x [.int .i64 x.f0, .bool x.f1, .slice A2 x.f2.length c2] := fun W2 hW => k38_mk W2 x l2 (g2 W2 hW)
def rd_T38 (xs : List S38) (i : Int) : S38 := xs.getD i.toNat z38
theorem at_T38 {w : World} {A : Option Addr} {n : Nat} {xs : List S38} (h : Kd.C k38 w A n xs) (i : Int) (h0 : 0 ≤ i) (h1 : i < n) : ∃ ad A2 c2, A = some ad ∧ w.cell? (ad.add (i.toNat * 3)) = some (.int .i64 (rd_T38 xs i).f0) ∧ w.cell? ⟨(ad.add (i.toNat * 3)).block, (ad.add (i.toNat * 3)).off + 1, none⟩ = some (.bool (rd_T38 xs i).f1) ∧ w.cell? ⟨(ad.add (i.toNat * 3)).block, (ad.add (i.toNat * 3)).off + 2, none⟩ = some (.slice A2 (rd_T38 xs i).f2.length c2) ∧ (rd_T38 xs i).f2.length ≤ c2 ∧ (Kd.int .u8).C w A2 (rd_T38 xs i).f2.length (rd_T38 xs i).f2 := by
  obtain ⟨ad, c, e, _, hK, hc0⟩ := Kd.C_get h z38 i h0 h1
  have hc : ∀ j u, c[j]? = some u → w.cell? (ad.add (i.toNat * 3 + j)) = some u := hc0
  obtain ⟨A2, c2, rfl, l2, g2⟩ := k38_open hK
  exact ⟨ad, A2, c2, e, hc 0 _ rfl, by rw [← add_field _ _ 1 (by omega)]; exact hc 1 _ rfl, by rw [← add_field _ _ 2 (by omega)]; exact hc 2 _ rfl, l2, g2⟩

/-! #### struct type 35 -/
structure S35 where
  f0 : Int
  f1 : Bool
  f2 : (List Int)
def z35 : S35 := ⟨(0 : Int), false, ([] : List Int)⟩
def k35 : Kd S35 := Kd.iso (Kd.pair (Kd.int .i64) (Kd.pair Kd.bool (Kd.slice 5 (Kd.int .u8)))) (fun x : S35 => (x.f0, x.f1, x.f2))
theorem k35_open {w : World} {x : S35} {cs : List Value} (h : k35.K w x cs) : ∃ A2 c2, cs = [.int .i64 x.f0, .bool x.f1, .slice A2 x.f2.length c2] ∧ x.f2.length ≤ c2 ∧ (Kd.int .u8).C w A2 x.f2.length x.f2 := by
  obtain ⟨_, _, rfl, rfl, ⟨_, _, rfl, rfl, ⟨A2, c2, rfl, l2, g2⟩⟩⟩ := h
  exact ⟨A2, c2, rfl, l2, g2⟩
theorem k35_openM {w : World} {base : Nat} {ok : Nat → Prop} {x : S35} {cs : List Value} (h : k35.M w base ok x cs) : ∃ v2, cs = [.int .i64 x.f0, .bool x.f1, v2] ∧ (Kd.int .u8).R 5 w base ok v2 x.f2 := by
  obtain ⟨_, _, rfl, rfl, ⟨_, _, rfl, rfl, ⟨v2, rfl, g2⟩⟩⟩ := h
  exact ⟨v2, rfl, g2⟩
theorem k35_mk (w : World) (x : S35) {A2 : Option Addr} {c2 : Nat} (l2 : x.f2.length ≤ c2) (g2 : (Kd.int .u8).C w A2 x.f2.length x.f2) : k35.K w x [.int .i64 x.f0, .bool x.f1, .slice A2 x.f2.length c2] := ⟨[.int .i64 x.f0], [.bool x.f1, .slice A2 x.f2.length c2], rfl, rfl, ⟨[.bool x.f1], [.slice A2 x.f2.length c2], rfl, rfl, ⟨A2, c2, rfl, l2, g2⟩⟩⟩
theorem k35_mkM (w : World) (base : Nat) (ok : Nat → Prop) (x : S35) {v2 : Value} (g2 : (Kd.int .u8).R 5 w base ok v2 x.f2) : k35.M w base ok x [.int .i64 x.f0, .bool x.f1, v2] := ⟨[.int .i64 x.f0], [.bool x.f1, v2], rfl, rfl, ⟨[.bool x.f1], [v2], rfl, rfl, ⟨v2, rfl, g2⟩⟩⟩
theorem k35_openF {W : World} {ok : Nat → Prop} {x : S35} {cs : List Value} (h : Kd.FK k35 W ok x cs) : ∃ A2 c2, cs = [.int .i64 x.f0, .bool x.f1, .slice A2 x.f2.length c2] ∧ x.f2.length ≤ c2 ∧ Kd.F (Kd.int .u8) W ok A2 x.f2.length x.f2 := by
  obtain ⟨A2, c2, rfl, l2, _⟩ := k35_open (Kd.FK_now h)
  exact ⟨A2, c2, rfl, l2, (fun W' hW => by obtain ⟨A2_, c2_, he, l2_, g2_⟩ := k35_open (h W' hW); injection (Option.some.inj (show some (Value.slice A2 x.f2.length c2) = some (Value.slice A2_ x.f2.length c2_) from congrArg (fun l => l[2]?) he)) with ha_ _ _; rw [ha_]; exact g2_)⟩
theorem k35_mkF (W : World) (ok : Nat → Prop) (x : S35) {A2 : Option Addr} {c2 : Nat} (l2 : x.f2.length ≤ c2) (g2 : Kd.F (Kd.int .u8) W ok A2 x.f2.length x.f2) : Kd.FK k35 W ok x [.int .i64 x.f0, .bool x.f1, .slice A2 x.f2.length c2] := fun W2 hW => k35_mk W2 x l2 (g2 W2 hW)
def rd_T35 (xs : List S35) (i : Int) : S35 := xs.getD i.toNat z35
theorem at_T35 {w : World} {A : Option Addr} {n : Nat} {xs : List S35} (h : Kd.C k35 w A n xs) (i : Int) (h0 : 0 ≤ i) (h1 : i < n) : ∃ ad A2 c2, A = some ad ∧ w.cell? (ad.add (i.toNat * 3)) = some (.int .i64 (rd_T35 xs i).f0) ∧ w.cell? ⟨(ad.add (i.toNat * 3)).block, (ad.add (i.toNat * 3)).off + 1, none⟩ = some (.bool (rd_T35 xs i).f1) ∧ w.cell? ⟨(ad.add (i.toNat * 3)).block, (ad.add (i.toNat * 3)).off + 2, none⟩ = some (.slice A2 (rd_T35 xs i).f2.length c2) ∧ (rd_T35 xs i).f2.length ≤ c2 ∧ (Kd.int .u8).C w A2 (rd_T35 xs i).f2.length (rd_T35 xs i).f2 := by
  obtain ⟨ad, c, e, _, hK, hc0⟩ := Kd.C_get h z35 i h0 h1
  have hc : ∀ j u, c[j]? = some u → w.cell? (ad.add (i.toNat * 3 + j)) = some u := hc0
  obtain ⟨A2, c2, rfl, l2, g2⟩ := k35_open hK
  exact ⟨ad, A2, c2, e, hc 0 _ rfl, by rw [← add_field _ _ 1 (by omega)]; exact hc 1 _ rfl, by rw [← add_field _ _ 2 (by omega)]; exact hc 2 _ rfl, l2, g2⟩

def ok35 (v : S35) : Prop := (Lit.int .i64 v.f0).wf = true ∧ (v.f2.length ≤ maxLen ∧ ∀ x ∈ v.f2, (Lit.int .u8 x).wf = true)
-- IMPORT Derived.Lib.RuneBytes
-- IMPORT Derived.Laws.RangeAny
-- IMPORT Derived.Lib.OthersKept
theorem rd_n1 (xs : List Int) (i : Nat) (h : i < xs.length) : rd xs (i : Int) = xs[i] := by
  simp [rd, List.getElem?_eq_getElem h]
theorem some_ite {α : Type} {c : Prop} [Decidable c] {x y z : α} (h1 : c → x = z) (h2 : ¬ c → y = z) : (if c then x else y) = z := by
  by_cases h : c
  · rw [if_pos h]; exact h1 h
  · rw [if_neg h]; exact h2 h
def needsF (b : Int) : Int × Int × Int :=
  if b < 128 then (1, 0, 0) else
  if 194 ≤ b ∧ b ≤ 223 then (2, 128, 191) else
  if b = 224 then (3, 160, 191) else
  if b = 237 then (3, 128, 159) else
  if 225 ≤ b ∧ b ≤ 239 then (3, 128, 191) else
  if b = 240 then (4, 144, 191) else
  if b = 244 then (4, 128, 143) else
  if 241 ≤ b ∧ b ≤ 243 then (4, 128, 191) else (0, 0, 0)
theorem needs_le (b : Int) : 0 ≤ (needsF b).1 ∧ (needsF b).1 ≤ 4 := by
  unfold needsF
  repeat (first | exact ⟨by decide, by decide⟩ | split)
def tlF : Nat → Nat → Int → Int → List Int → Nat × Bool × Bool
  | 0, n, _, _, _ => (n, true, false)
  | _ + 1, n, _, _, [] => (n, false, true)
  | k + 1, n, lo, hi, c :: r => if c < lo ∨ c > hi then (n, false, false) else tlF k (n + 1) 128 191 r
def stretchF : List Int → Nat × Bool × Bool
  | [] => (0, false, false)
  | b :: r => if (needsF b).1 = 0 then (1, false, false) else tlF ((needsF b).1.toNat - 1) 1 (needsF b).2.1 (needsF b).2.2 r
theorem tlF_bd : ∀ (k n : Nat) (lo hi : Int) (r : List Int), n ≤ (tlF k n lo hi r).1 ∧ (tlF k n lo hi r).1 ≤ n + k ∧ (tlF k n lo hi r).1 ≤ n + r.length ∨ (k = 0 ∧ (tlF k n lo hi r).1 = n) := by
  intro k
  induction k with
  | zero => intro n lo hi r; exact .inr ⟨rfl, rfl⟩
  | succ k ih =>
    intro n lo hi r
    cases r with
    | nil => exact .inl ⟨Nat.le_refl _, by show n ≤ _; omega, by show n ≤ _; omega⟩
    | cons c r =>
      rw [tlF]
      split
      · exact .inl ⟨Nat.le_refl _, by show n ≤ _; omega, by show n ≤ _; omega⟩
      · have := ih (n + 1) 128 191 r
        simp only [List.length_cons]
        omega
theorem stretch_bd (l : List Int) (h : l ≠ []) : 1 ≤ (stretchF l).1 ∧ (stretchF l).1 ≤ l.length ∧ (stretchF l).1 ≤ 4 := by
  cases l with
  | nil => exact absurd rfl h
  | cons b r =>
    rw [stretchF]
    have hn := needs_le b
    split
    · exact ⟨Nat.le_refl _, by simp, by decide⟩
    · have := tlF_bd ((needsF b).1.toNat - 1) 1 (needsF b).2.1 (needsF b).2.2 r
      simp only [List.length_cons]
      omega
def rdU : Nat → List Int → List Int
  | 0, _ => []
  | _ + 1, [] => []
  | k + 1, b :: r => (if (stretchF (b :: r)).2.1 = true then (b :: r).take (stretchF (b :: r)).1 else [239, 191, 189]) ++ rdU k ((b :: r).drop (stretchF (b :: r)).1)
theorem rdU_cons (k : Nat) (l : List Int) (h : l ≠ []) : rdU (k + 1) l = (if (stretchF l).2.1 = true then l.take (stretchF l).1 else [239, 191, 189]) ++ rdU k (l.drop (stretchF l).1) := by
  cases l with
  | nil => exact absurd rfl h
  | cons b r => rfl
theorem rdU_nil (k : Nat) : rdU k [] = [] := by cases k <;> rfl
theorem rdU_range (k : Nat) : ∀ l : List Int, (∀ x ∈ l, 0 ≤ x ∧ x ≤ 255) → ∀ x ∈ rdU k l, 0 ≤ x ∧ x ≤ 255 := by
  induction k with
  | zero => intro l _ x hx; cases hx
  | succ k ih =>
    intro l hl x hx
    by_cases e : l = []
    · subst e; rw [rdU_nil] at hx; cases hx
    · rw [rdU_cons k l e] at hx
      rcases List.mem_append.mp hx with h | h
      · split at h
        · exact hl x (List.mem_of_mem_take h)
        · simp at h; omega
      · exact ih _ (fun y hy => hl y (List.mem_of_mem_drop hy)) x h
theorem rdU_len (k : Nat) : ∀ l : List Int, (rdU k l).length ≤ 3 * l.length := by
  induction k with
  | zero => intro l; exact Nat.zero_le _
  | succ k ih =>
    intro l
    by_cases e : l = []
    · subst e; rw [rdU_nil]; exact Nat.le_refl _
    · have hb := stretch_bd l e
      have h := ih (l.drop (stretchF l).1)
      rw [List.length_drop] at h
      rw [rdU_cons k l e, List.length_append]
      split
      · rw [List.length_take]; omega
      · simp only [List.length_cons, List.length_nil]; omega
def encB (c : Int) : Bool := decide (c < 0) || (decide (c > 1114111) || (decide (c ≥ 55296) && decide (c ≤ 57343)))
def encZ (c : Int) : List Int := if encB c = true then [239, 191, 189] else Lib.encodeRuneZ c
def encU (l : List Int) : List Int := l.flatMap encZ
theorem encU_succ (l : List Int) (n : Nat) (h : n < l.length) : encU (l.take (n + 1)) = encU (l.take n) ++ encZ l[n] := by
  unfold encU
  rw [List.take_add_one, List.getElem?_eq_getElem h, List.flatMap_append]
  simp
theorem runeZ_len (c : Int) : (Lib.encodeRuneZ c).length ≤ 4 := by
  unfold Lib.encodeRuneZ
  repeat (first | (simp only [List.length_cons, List.length_nil]; omega) | split)
theorem encZ_len (c : Int) : (encZ c).length ≤ 4 := by
  unfold encZ
  split
  · decide
  · exact runeZ_len c
theorem encU_len (l : List Int) : (encU l).length ≤ 4 * l.length := by
  induction l with
  | nil => exact Nat.le_refl _
  | cons c l ih =>
    have := encZ_len c
    have e : encU (c :: l) = encZ c ++ encU l := by simp [encU]
    rw [e, List.length_append, List.length_cons]; omega
def dcp (s : ByteArray) : Nat → Nat → List Int
  | 0, _ => []
  | k + 1, pos => if pos < s.size then ((Utf8.decode s pos).1 : Int) :: dcp s k (pos + (Utf8.decode s pos).2) else []
theorem dec_pos (s : ByteArray) (pos : Nat) (h : pos < s.size) : 1 ≤ (Utf8.decode s pos).2 := by
  by_cases c : (s[pos]'h).toNat < 128
  · rw [decode_ascii s pos h c]; exact Nat.le_refl _
  · exact (decode_high s pos h (by omega)).2

-- IMPORT Derived.Test.YtmffcjjodkggcaaShelf
-- IMPORT Derived.Lib.Builder
-- IMPORT Derived.Laws.Externs
-- INFO 3
/-! ### a builder of the call's own -/
def Bld (w : World) (B g : Nat) (out : List Int) : Prop := B ≤ g ∧ ∃ p v, w.heap[g]? = some (.cells #[p, v] 74 (0, 0)) ∧ (p = .pointer none ∨ p = .pointer (some ⟨g, 0, none⟩)) ∧ Kd.R (Kd.int .u8) 5 w B (fun k => k ≠ g) v out
theorem infoB : (Try.prog.info? 5).map (fun i => (i.zero, i.size, i.bytes)) = some (some (.int .u8 0), 1, 1) := by kernel_rfl
theorem sizeBld : (Try.prog.info? 74).map (·.size) = some 2 := by kernel_rfl
theorem liesBld : liesAt Try.prog Try.prog.depth 74 (2 / Try.prog.cellsOf 74) 0 74 1 = true := by kernel_rfl
theorem shape_of {w : World} {g : Nat} {p v : Value} (h : w.heap[g]? = some (.cells #[p, v] 74 (0, 0))) : w.shape? g = some (74, 2) := by
  simp [World.shape?, h]
set_option maxHeartbeats 2000000 in
set_option maxRecDepth 100000 in
theorem cc_calls (w : World) (g : Nat) (p v : Value) (h : w.heap[g]? = some (.cells #[p, v] 74 (0, 0))) (hp : p = .pointer none ∨ p = .pointer (some ⟨g, 0, none⟩)) :
    Calls Try.prog 74 #[.pointer (some ⟨g, 0, none⟩)] w fun e w' => e = .returned (.tuple #[]) ∧ (w' = w ∨ w' = w.setCell ⟨g, 0, none⟩ (.pointer (some ⟨g, 0, none⟩))) ∧ w'.heap[g]? = some (.cells #[.pointer (some ⟨g, 0, none⟩), v] 74 (0, 0)) := by
  obtain ⟨j, hj, hjs⟩ := Option.map_eq_some_iff.1 sizeBld
  have hu154 := Try.underlying72
  have hu156 := Try.underlying74
  have hu174 := Try.underlying98
  have h0 : w.cell? ⟨g, 0, none⟩ = some p := (blk_cell h 0).trans rfl
  have hfz := blk_frozen h 0
  have hsh := shape_of h
  have H := Aside0.mk h
  have hset := Aside0.mk (blk_set h 0 (.pointer (some ⟨g, 0, none⟩)))
  clear h
  rcases hp with rfl | rfl
  · go_enter Try.func74, Try.ntmps74
    go_wp2
    rw [Lib.run_to_unsafe w ⟨g, 0, none⟩ Try.underlying72 Try.underlying98 hj (by rw [hjs]; decide) hsh (Nat.zero_lt_succ 1)]
    simp only [Result.andThen]
    rw [Oper.upon_value]
    go_wp2
    rw [run_callFunc_extern Try.func76 (by kernel_rfl) (by kernel_rfl) (by kernel_rfl) (e := Extern.AbiNoEscape.same) (by kernel_rfl)]
    rw [Lib.run_noEscape]
    simp only [Result.andThen]
    rw [Oper.upon_value]
    go_wp2
    rw [Lib.run_from_unsafe w ⟨g, 0, none⟩ Try.underlying98 Try.underlying72 hj hsh liesBld]
    simp only [Result.andThen]
    rw [Oper.upon_value]
    go_wp2
    go_end0
    exact ⟨rfl, .inr rfl, hset.out⟩
  · go_enter Try.func74, Try.ntmps74
    go_wp2
    rw [Lib.run_neq_ptr_same w _ Try.underlying72 hj]
    go_wp2
    go_end0
    exact ⟨rfl, .inl rfl, H.out⟩
theorem cc_bld (w w0 : World) (g : Nat) (out : List Int) (h : Bld w w0.heap.size g out) (hb : Below w0.heap.size w0 w) :
    Calls Try.prog 74 #[.pointer (some ⟨g, 0, none⟩)] w fun e w' => e = .returned (.tuple #[]) ∧ ∃ v, w'.heap[g]? = some (.cells #[.pointer (some ⟨g, 0, none⟩), v] 74 (0, 0)) ∧ Kd.R (Kd.int .u8) 5 w' w0.heap.size (fun k => k ≠ g) v out ∧ Below w0.heap.size w0 w' ∧ Below w0.heap.size w w' := by
  obtain ⟨hB, p, v, h1, h2, h3⟩ := h
  refine (cc_calls w g p v h1 h2).mono ?_
  rintro e w' ⟨rfl, rfl | rfl, h4⟩
  · exact ⟨rfl, v, h4, h3, hb, Below.refl _ _⟩
  · exact ⟨rfl, v, h4, Kd.R_far (p := ⟨g, 0, none⟩) h3 (fun k hk => hk) _, below_set hb hB, (Below.refl w0.heap.size w).setCell (p := ⟨g, 0, none⟩) hB _⟩
set_option maxHeartbeats 2000000 in
set_option maxRecDepth 100000 in
theorem wrs_calls (w w0 : World) (g : Nat) (out : List Int) (s : ByteArray) (h : Bld w w0.heap.size g out) (hb : Below w0.heap.size w0 w) (hl : out.length + s.size ≤ 140737488355328) :
    Calls Try.prog 58 #[.pointer (some ⟨g, 0, none⟩), .string s] w fun e w' => e = .returned (.tuple #[.int .i64 s.size, .nilIface]) ∧ Bld w' w0.heap.size g (out ++ bytesOf s) ∧ Below w0.heap.size w0 w' := by
  have HBld := Aside0.mk h
  have HL := Aside0.mk hl
  have HBb := Aside0.mk hb
  have hgB := Aside0.mk h.1
  clear h hb hl
  go_enter Try.func58, Try.ntmps58
  go_wp2_with (first | (go_at_call 74; refine (cc_bld w w0 g out HBld.out HBb.out).mono ?_; rintro e w1 ⟨rfl, v, h1, h2, h3, _⟩; have c0 : w1.cell? ⟨g, 0, none⟩ = some (.pointer (some ⟨g, 0, none⟩)) := (blk_cell h1 0).trans rfl; have c1 : w1.cell? ⟨g, 1, none⟩ = some v := (blk_cell h1 1).trans rfl; have H1 := Aside0.mk h1; have H2 := Aside0.mk h2; have H3 := Aside0.mk h3; clear h1 h2 h3) | ((with_reducible refine gate_builtin (b := .append) (xs := #[.tmp 12, .tmp 13]) rfl ?_); refine print_append_str (w0 := w0) w0.heap.size rfl (.tmp 12) (.tmp 13) 22 9 5 rfl Try.underlying22 Try.underlying9 infoB v out s rfl rfl (Kd.own_of_R H2.out) H3.out H3.out.size HL.out ?_; intro v1 w2 ho hb hg; have hb2 := blk_grown H1.out hg (Kd.R_ne H2.out H1.out (by decide)); obtain ⟨A2, cc2, e2⟩ := own_slice ho; have HR2 := Aside0.mk ho; have HG2 := Aside0.mk hb2; have HB2 := Aside0.mk hb; have d0 : w2.cell? ⟨g, 0, none⟩ = some (.pointer (some ⟨g, 0, none⟩)) := (blk_cell hb2 0).trans rfl; have d1 : w2.cell? ⟨g, 1, none⟩ = some v := (blk_cell hb2 1).trans rfl; have f1 := blk_frozen hb2 1; clear c0 c1 ho hb hg hb2; subst e2))
  go_ret2
  refine ⟨rfl, ⟨hgB.out, _, _, blk_set HG2.out 1 _, .inr rfl, ?_⟩, below_set HB2.out hgB.out⟩
  have hR : Kd.R (Kd.int .u8) 5 w2 w0.heap.size (fun k => k ≠ g) (.slice A2 (out ++ bytesOf s).length cc2) (out ++ bytesOf s) := Kd.R_of_own HR2.out (fun k hk e => by subst e; exact (own_ne HR2.out HG2.out (by decide)) hk.symm)
  rw [List.length_append] at hR
  exact Kd.R_far (p := ⟨g, 1, none⟩) hR (fun k hk => hk) _
set_option maxHeartbeats 2000000 in
set_option maxRecDepth 100000 in
theorem wrb_calls (w w0 : World) (g : Nat) (out ys : List Int) (A : Option Addr) (c : Nat) (h : Bld w w0.heap.size g out) (hb : Below w0.heap.size w0 w) (hC : Kd.C (Kd.int .u8) w0 A ys.length ys) (hl : out.length + ys.length ≤ 140737488355328) :
    Calls Try.prog 57 #[.pointer (some ⟨g, 0, none⟩), .slice A ys.length c] w fun e w' => e = .returned (.tuple #[.int .i64 ys.length, .nilIface]) ∧ Bld w' w0.heap.size g (out ++ ys) ∧ Below w0.heap.size w0 w' := by
  have HBld := Aside0.mk h
  have HL := Aside0.mk hl
  have HBb := Aside0.mk hb
  have HC := Aside0.mk hC
  have hgB := Aside0.mk h.1
  clear h hb hl hC
  go_enter Try.func57, Try.ntmps57
  go_wp2_with (first | (go_at_call 74; refine (cc_bld w w0 g out HBld.out HBb.out).mono ?_; rintro e w1 ⟨rfl, v, h1, h2, h3, _⟩; have c0 : w1.cell? ⟨g, 0, none⟩ = some (.pointer (some ⟨g, 0, none⟩)) := (blk_cell h1 0).trans rfl; have c1 : w1.cell? ⟨g, 1, none⟩ = some v := (blk_cell h1 1).trans rfl; have H1 := Aside0.mk h1; have H2 := Aside0.mk h2; have H3 := Aside0.mk h3; clear h1 h2 h3) | ((with_reducible refine gate_builtin (b := .append) (xs := #[.tmp 12, .tmp 13]) rfl ?_); refine Kd.R_append_row (Value.int .u8) 0 (w0 := w0) w0.heap.size rfl (.tmp 12) (.tmp 13) 22 5 (.int .u8 0) 1 rfl Try.underlying22 infoB rfl (by decide) v out ys A ys.length c (fun k => k ≠ g) rfl rfl (fun k hk => by have := blk_lt H1.out; omega) H2.out (Kd.C_below HC.out H3.out) H3.out H3.out.size (by have := HL.out; omega) ?_; intro v1 w2 ho hb hg hat; have hb2 := blk_grown H1.out hg (Kd.R_ne H2.out H1.out (by decide)); obtain ⟨A2, cc2, e2⟩ := own_slice (Kd.own_of_R ho); have HR2 := Aside0.mk (Kd.own_of_R ho); have HG2 := Aside0.mk hb2; have HB2 := Aside0.mk hb; have d0 : w2.cell? ⟨g, 0, none⟩ = some (.pointer (some ⟨g, 0, none⟩)) := (blk_cell hb2 0).trans rfl; have d1 : w2.cell? ⟨g, 1, none⟩ = some v := (blk_cell hb2 1).trans rfl; have f1 := blk_frozen hb2 1; clear c0 c1 ho hb hg hb2 hat; subst e2))
  go_ret2
  refine ⟨rfl, ⟨hgB.out, _, _, blk_set HG2.out 1 _, .inr rfl, ?_⟩, below_set HB2.out hgB.out⟩
  have hR : Kd.R (Kd.int .u8) 5 w2 w0.heap.size (fun k => k ≠ g) (.slice A2 (out ++ ys).length cc2) (out ++ ys) := Kd.R_of_own HR2.out (fun k hk e => by subst e; exact (own_ne HR2.out HG2.out (by decide)) hk.symm)
  rw [List.length_append] at hR
  exact Kd.R_far (p := ⟨g, 1, none⟩) hR (fun k hk => hk) _
set_option maxHeartbeats 2000000 in
set_option maxRecDepth 100000 in
theorem bstr_calls (w w0 : World) (g : Nat) (out : List Int) (h : Bld w w0.heap.size g out) (hb : Below w0.heap.size w0 w) (hr : ∀ x ∈ out, 0 ≤ x ∧ x ≤ 255) :
    Calls Try.prog 59 #[.pointer (some ⟨g, 0, none⟩)] w fun e w' => e = .returned (.string (strOfNums out)) ∧ Below w0.heap.size w0 w' := by
  obtain ⟨hB, p, v, h1, h2, h3⟩ := h
  have hown := Kd.own_of_R h3
  have e : encs (Value.int .u8) out = Lib.byteCells (out.map fun n => UInt8.ofNat n.toNat) := by
    simp only [encs, Lib.byteCells, List.map_map]
    refine List.map_congr_left fun x hx => ?_
    have := hr x hx
    simp only [Function.comp, UInt8.toNat_ofNat']
    congr 1
    omega
  have hI : Lib.IsBuilder 74 5 w0.heap.size g (Lib.byteCells (out.map fun n => UInt8.ofNat n.toNat)) w := by
    have key : Lib.BuilderAt 74 5 w0.heap.size g p (Lib.byteCells (out.map fun n => UInt8.ofNat n.toNat)) w := by
      refine ⟨hB, v, h1, ?_, fun z => (Kd.R_ne h3 h1 (by decide)) z.symm⟩
      rw [← e]
      simpa [encs] using hown
    rcases h2 with rfl | rfl
    · exact .inl key
    · exact .inr key
  refine (Try.Builder_String_any w0.heap.size g _ w hI hb.size).mono ?_
  rintro e w' ⟨rfl, hb2⟩
  exact ⟨rfl, hb.trans hb2⟩

end Go.Proofs.Ytmffcjjodkggcaa.MFnExactFeedEnd
