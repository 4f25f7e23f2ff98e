-- Written by this session's own program (wip/gen/myprint.py).
import Derived.Test.YtpknhndanbgkmaaMFnSharesx0
import Derived.Test.YtpknhndanbgkmaaMFnSharesx4
import Derived.Test.YtpknhndanbgkmaaMFnSharesx5
import Derived.Test.YtpknhndanbgkmaaMFnSharesx6
namespace Go.Proofs.Ytpknhndanbgkmaa.MFnShares
open Go.RowKit Go.Proofs.YtpknhndanbgkmaaW.PrintWords Go.Proofs.YtpknhndanbgkmaaW.PrintLast Go.Proofs.YtpknhndanbgkmaaW.PrintMore
attribute [local go_sem] max2_int min2_int max_two min_two max_three min_three max_four min_four   -- for this text's walks alone
set_option linter.unusedVariables false
set_option linter.unusedSimpArgs false
-- INFO 3
structure Sx where
 items : List S66
 size : List Int
 fixed : List Bool
 factor : List Int
 gr : Bool
 room : Int
 first : Int
structure FS (w0 W : World) (g b1 B : Nat) (A0 : Option Addr) (c0 : Nat) (v1 v2 v3 : Value) (s : Sx) : Prop where
 blk : W.heap[g]? = some (.cells #[.slice A0 s.items.length c0, v1, v2, v3, .bool s.gr, .int .i64 s.room, .int .i64 s.first] 134 (0, 0))
 ge : w0.heap.size ≤ g
 lt : g < B
 it : Kd.C k66 w0 A0 s.items.length s.items
 r1 : Kd.R (Kd.int .i64) 3 W w0.heap.size (fun k => k < b1) v1 s.size
 r2 : Kd.R Kd.bool 4 W w0.heap.size (fun k => k < B) v2 s.fixed
 r3 : Kd.R (Kd.int .i64) 3 W b1 (fun k => k < B) v3 s.factor
 b : Below w0.heap.size w0 W
 h1 : w0.heap.size ≤ b1
 h2 : b1 ≤ B
 l1 : s.size.length = s.items.length
 l2 : s.fixed.length = s.items.length
 l3 : s.factor.length = s.items.length
theorem R_away {α : Type} {d : Kd α} {e base : Nat} {w w1 : World} {ok : Nat → Prop} {v : Value} {xs : List α} (h : d.R e w base ok v xs) {row : Option Nat} (hg : w.grownBy w1 row) (hne : ∀ k, ok k → base ≤ k → some k ≠ row) : d.R e w1 base ok v xs :=
 Kd.R_mono (Kd.R_grown (Kd.R_bound h) hg (fun k hk => hne k hk.1 hk.2.1)) (fun k hk => hk.1)
theorem own_some {α : Type} {enc : α → Value} {q1 : ∀ x, (enc x).oneCell' = true} {e base : Nat} {ok : Nat → Prop} {w : World} {v : Value} {xs : List α} (h : (Kd.scalar enc q1).R e w base ok v xs) (hp : 0 < xs.length) : ∃ g cap, v = .slice (some ⟨g, 0, none⟩) xs.length cap ∧ xs.length ≤ cap ∧ base ≤ g ∧ ok g ∧ ∃ cells, w.heap[g]? = some (.cells cells e (0, 0)) := by
 have ho := Kd.own_of_R h
 rcases ho.2 with ⟨_, hn⟩ | ⟨g, cap, cur, rfl, hg, hh, h1, h2, h3, h4⟩
 · omega
 · exact ⟨g, cap, rfl, h1, hg, h.1 g rfl, cur, hh⟩
section
variable {w0 W W' : World} {g b1 B : Nat} {A0 : Option Addr} {c0 : Nat} {v1 v2 v3 : Value} {s : Sx}
theorem FS.below (h : FS w0 W g b1 B A0 c0 v1 v2 v3 s) (k : Below W.heap.size W W') : FS w0 W' g b1 B A0 c0 v1 v2 v3 s :=
 ⟨blk_below h.blk k, h.ge, h.lt, h.it, Kd.R_below h.r1 k, Kd.R_below h.r2 k, Kd.R_below h.r3 k, below_step h.b k, h.h1, h.h2, h.l1, h.l2, h.l3⟩
theorem FS.away (h : FS w0 W g b1 B A0 c0 v1 v2 v3 s) {row : Option Nat} (hg : W.grownBy W' row) (hr : ∀ k, row = some k → B ≤ k) : FS w0 W' g b1 B A0 c0 v1 v2 v3 s := by
 have hne : ∀ k, k < B → some k ≠ row := fun k hk e => by have := hr k e.symm; omega
 have hb0 := h.b.size
 have q1 := h.h1
 have q2 := h.h2
 exact ⟨blk_grown h.blk hg (hne _ h.lt), h.ge, h.lt, h.it, R_away h.r1 hg (fun k hk _ => hne k (Nat.lt_of_lt_of_le hk q2)), R_away h.r2 hg (fun k hk _ => hne k hk), R_away h.r3 hg (fun k hk _ => hne k hk), pw_below_grown h.b row hb0 hg (fun k e => by have := hr k e; omega), h.h1, h.h2, h.l1, h.l2, h.l3⟩
theorem FS.put1 {g1 cap : Nat} (h : FS w0 W g b1 B A0 c0 (.slice (some ⟨g1, 0, none⟩) s.size.length cap) v2 v3 s) (i : Nat) (x : Int) :
 FS w0 (W.setCell ⟨g1, i, none⟩ (.int .i64 x)) g b1 B A0 c0 (.slice (some ⟨g1, 0, none⟩) s.size.length cap) v2 v3 ⟨s.items, s.size.set i x, s.fixed, s.factor, s.gr, s.room, s.first⟩ ∧ W.grownBy (W.setCell ⟨g1, i, none⟩ (.int .i64 x)) (some g1) ∧ g1 < b1 := by
 obtain ⟨hp, hg⟩ := Kd.R_put h.r1 (i : Int) x
 rw [Int.toNat_natCast] at hp hg
 have hk : g1 < b1 := h.r1.1 g1 rfl
 obtain ⟨cells, hty⟩ := Kd.R_typed h.r1 g1 rfl
 have hbd := (Kd.R_bound h.r1).1 g1 rfl
 refine ⟨⟨?_, h.ge, h.lt, h.it, hp, ?_, ?_, ?_, h.h1, h.h2, by rw [List.length_set]; exact h.l1, h.l2, h.l3⟩, hg, hk⟩
 · exact blk_grown h.blk hg (Kd.R_ne h.r1 h.blk (by decide))
 · exact Kd.R_over' h.r2 (v := .slice (some ⟨g1, 0, none⟩) s.size.length cap) (e' := 3) (fun k hk => by cases hk; exact ⟨cells, hty⟩) (by decide) hg
 · exact R_away h.r3 hg (fun k _ hb => by intro e; injection e with e; omega)
 · exact pw_below_grown h.b _ h.b.size hg (fun k e => by injection e with e; have := hbd.2.1; omega)
theorem FS.put2 {g2 cap : Nat} (h : FS w0 W g b1 B A0 c0 v1 (.slice (some ⟨g2, 0, none⟩) s.fixed.length cap) v3 s) (i : Nat) (x : Bool) :
 FS w0 (W.setCell ⟨g2, i, none⟩ (.bool x)) g b1 B A0 c0 v1 (.slice (some ⟨g2, 0, none⟩) s.fixed.length cap) v3 ⟨s.items, s.size, s.fixed.set i x, s.factor, s.gr, s.room, s.first⟩ ∧ W.grownBy (W.setCell ⟨g2, i, none⟩ (.bool x)) (some g2) ∧ g2 < B := by
 obtain ⟨hp, hg⟩ := Kd.R_put h.r2 (i : Int) x
 rw [Int.toNat_natCast] at hp hg
 have hk : g2 < B := h.r2.1 g2 rfl
 obtain ⟨cells, hty⟩ := Kd.R_typed h.r2 g2 rfl
 have hbd := (Kd.R_bound h.r2).1 g2 rfl
 refine ⟨⟨?_, h.ge, h.lt, h.it, ?_, hp, ?_, ?_, h.h1, h.h2, h.l1, by rw [List.length_set]; exact h.l2, h.l3⟩, hg, hk⟩
 · exact blk_grown h.blk hg (Kd.R_ne h.r2 h.blk (by decide))
 · exact Kd.R_over' h.r1 (v := .slice (some ⟨g2, 0, none⟩) s.fixed.length cap) (e' := 4) (fun k hk => by cases hk; exact ⟨cells, hty⟩) (by decide) hg
 · exact Kd.R_over' h.r3 (v := .slice (some ⟨g2, 0, none⟩) s.fixed.length cap) (e' := 4) (fun k hk => by cases hk; exact ⟨cells, hty⟩) (by decide) hg
 · exact pw_below_grown h.b _ h.b.size hg (fun k e => by injection e with e; have := hbd.2.1; omega)
theorem FS.item (h : FS w0 W g b1 B A0 c0 v1 v2 v3 s) (n : Nat) (hn : n < s.items.length) : ∃ ad, A0 = some ad ∧ W.cell? (ad.add (n * 5)) = some (.int .i64 (s.items.getD n z66).f0) ∧ W.cell? ⟨(ad.add (n * 5)).block, (ad.add (n * 5)).off + 1, none⟩ = some (.int .i64 (s.items.getD n z66).f1) ∧ W.cell? ⟨(ad.add (n * 5)).block, (ad.add (n * 5)).off + 2, none⟩ = some (.int .i64 (s.items.getD n z66).f2) ∧ W.cell? ⟨(ad.add (n * 5)).block, (ad.add (n * 5)).off + 3, none⟩ = some (.int .i64 (s.items.getD n z66).f3) ∧ W.cell? ⟨(ad.add (n * 5)).block, (ad.add (n * 5)).off + 4, none⟩ = some (.int .i64 (s.items.getD n z66).f4) := by
 obtain ⟨ad, eA, x0, x1, x2, x3, x4⟩ := at_T66 (Kd.C_below h.it h.b) (n : Int) (by omega) (by omega)
 unfold rd_T66 at x0 x1 x2 x3 x4
 rw [Int.toNat_natCast] at x0 x1 x2 x3 x4
 exact ⟨ad, eA, x0, x1, x2, x3, x4⟩
theorem FS.item1 {ad : Addr} (h : FS w0 W g b1 B (some ad) c0 v1 v2 v3 s) (n : Nat) (hn : n < s.items.length) : W.cell? (ad.add (n * 5)) = some (.int .i64 (s.items.getD n z66).f0) := by
 obtain ⟨ad', e, z, _⟩ := h.item n hn
 cases e
 exact z
theorem cell_at {α : Type} {enc : α → Value} {q1 : ∀ x, (enc x).oneCell' = true} {e base cap g : Nat} {ok : Nat → Prop} {xs : List α} (d : α) (h : (Kd.scalar enc q1).R e W base ok (.slice (some ⟨g, 0, none⟩) xs.length cap) xs) (n : Nat) (hn : n < xs.length) : W.cell? ⟨g, n, none⟩ = some (enc (xs.getD n d)) ∧ W.frozen? ⟨g, n, none⟩ = false := by
 have := Kd.R_cell d h (n : Int) (by omega) (by omega)
 unfold rdOf at this
 rw [Int.toNat_natCast] at this
 exact this
end
def leftStep (s : Sx) (r : Int) (i : Nat) : Int := wrap64 (r - (if s.fixed.getD i false = true then s.size.getD i 0 else (s.items.getD i z66).f0))
def leftN (s : Sx) (n : Nat) : Int := (List.range n).foldl (leftStep s) s.room
theorem leftN_succ (s : Sx) (n : Nat) : leftN s (n + 1) = leftStep s (leftN s n) n := by unfold leftN; rw [List.range_succ, List.foldl_append]; rfl
set_option maxHeartbeats 8000000 in
set_option maxRecDepth 100000 in
theorem leftS_calls (w0 w : World) (g b1 B : Nat) (A0 : Option Addr) (c0 : Nat) (v1 v2 v3 : Value) (s : Sx) (hF : FS w0 w g b1 B A0 c0 v1 v2 v3 s) (hl : s.items.length ≤ 1000000) :
 Calls Try.prog 119 #[.pointer (some ⟨g, 0, none⟩)] w fun e w' => e = .returned (.int .i64 (leftN s s.items.length)) ∧ w = w' := by
 have HF := aMk hF
 have HL := aMk hl
 have y0 : w.cell? ⟨g, 0, none⟩ = some (.slice A0 s.items.length c0) := bCe hF.blk 0
 have y1 : w.cell? ⟨g, 1, none⟩ = some v1 := bCe hF.blk 1
 have y2 : w.cell? ⟨g, 2, none⟩ = some v2 := bCe hF.blk 2
 have y5 : w.cell? ⟨g, 5, none⟩ = some (.int .i64 s.room) := bCe hF.blk 5
 clear hF hl
 go_enter Try.func119, Try.ntmps119
 go_wp2
 go_loopg [3, 4] s.items.length (fun kq v3 v4 w' => ∃ n : Nat, v3 = .int .i64 (leftN s n) ∧ v4 = .int .i64 (n : Int) ∧ Aside0 (n + kq = s.items.length) ∧ w' = w)
 case atStart => exact ⟨0, rfl, rfl, ⟨by simp⟩, rfl⟩
 case round =>
  obtain ⟨n, rfl, rfl, HN, rfl⟩ := hrel
  by_cases c1 : n < s.items.length
  · have hk : gk ≠ 0 := by have := HN.out; omega
    obtain ⟨k1, rfl⟩ := Nat.exists_eq_succ_of_ne_zero hk
    clear hk
    have HN2 : Aside0 (n + 1 + k1 = s.items.length) := ⟨by have := HN.out; omega⟩
    have d1 : decide ((n : Int) < (s.items.length : Int)) = true := decide_eq_true (by omega)
    have d2 : decide (n < s.items.length) = true := decide_eq_true c1
    have l1 := HF.out.l1
    have l2 := HF.out.l2
    obtain ⟨g1, p1, rfl, _, _, _, _⟩ := own_some HF.out.r1 (by omega)
    obtain ⟨g2, p2, rfl, _, _, _, _⟩ := own_some HF.out.r2 (by omega)
    obtain ⟨ad, eA, z0, _, _, _, _⟩ := HF.out.item n c1
    cases eA
    have z1 : wr.cell? ⟨g1, n, none⟩ = some (.int .i64 (s.size.getD n 0)) := (cell_at 0 HF.out.r1 n (by omega)).1
    have z2 : wr.cell? ⟨g2, n, none⟩ = some (.bool (s.fixed.getD n false)) := (cell_at false HF.out.r2 n (by omega)).1
    have q0 : 0 ≤ (n : Int) := by omega
    have q1 : (n : Int) < (s.items.length : Int) := by omega
    have q2 : (n : Int) < (s.size.length : Int) := by omega
    have q3 : (n : Int) < (s.fixed.length : Int) := by omega
    have hw : wrap64 ((n : Int) + 1) = ((n + 1 : Nat) : Int) := by have := HL.out; unfold wrap64; omega
    have hs := leftN_succ s n
    unfold leftStep at hs
    clear l1 l2
    obtain ⟨it, hit⟩ : ∃ x, x = (s.items.getD n z66).f0 := ⟨_, rfl⟩
    obtain ⟨sz, hsz⟩ : ∃ x, x = s.size.getD n 0 := ⟨_, rfl⟩
    obtain ⟨fx, hfx⟩ : ∃ x, x = s.fixed.getD n false := ⟨_, rfl⟩
    obtain ⟨lf, hlf⟩ : ∃ x, x = leftN s n := ⟨_, rfl⟩
    rw [← hit, ← hsz, ← hfx, ← hlf] at hs
    rw [← hit] at z0
    rw [← hsz] at z1
    rw [← hfx] at z2
    rw [← hlf]
    clear hit hsz hfx hlf
    cases fx
    all_goals
     first | rw [if_pos rfl] at hs | rw [if_neg (by decide)] at hs
     have HS := aMk hs
     clear hs
     go_wp2
     go_roundg k1
     case measure => omega
     case rel => exact ⟨n + 1, by rw [HS.out], by rw [hw], HN2, rfl⟩
  · have d1 : decide ((n : Int) < (s.items.length : Int)) = false := decide_eq_false (by omega)
    have d2 : decide (n < s.items.length) = false := decide_eq_false c1
    have HE2 : Aside0 (n = s.items.length) := ⟨by have := HN.out; omega⟩
    clear HN c1
    go_wp2
    go_ret
    exact ⟨by rw [← HE2.out]; rfl, rfl⟩
def frN (fixed : List Bool) (n : Nat) : List Nat := (List.range n).filter (fun i => !(fixed.getD i false))
theorem frN_fix {fixed : List Bool} {n : Nat} (h : fixed.getD n false = true) : frN fixed (n + 1) = frN fixed n := by
 unfold frN
 rw [List.range_succ, List.filter_append, List.filter_cons_of_neg (by rw [h]; decide), List.filter_nil, List.append_nil]
theorem frN_open {fixed : List Bool} {n : Nat} (h : fixed.getD n false = false) : frN fixed (n + 1) = frN fixed n ++ [n] := by
 unfold frN
 rw [List.range_succ, List.filter_append, List.filter_cons_of_pos (by rw [h]; rfl), List.filter_nil]
theorem frN_len (fixed : List Bool) (n : Nat) : (frN fixed n).length ≤ n := Nat.le_trans (List.length_filter_le _ _) (by rw [List.length_range]; exact Nat.le_refl _)
theorem frN_lt {fixed : List Bool} {n i : Nat} (h : i ∈ frN fixed n) : i < n := List.mem_range.1 (List.mem_filter.1 h).1
def wtS (k : Nat) (s : Sx) (i : Nat) : Int := if s.gr = true then s.factor.getD i 0 else (spec_MulDiv.f k (s.items.getD i z66).f0 (s.factor.getD i 0) 1000).getD 0
def facS (s : Sx) (fr : List Nat) : Int := fr.foldl (fun a i => wrap64 (a + s.factor.getD i 0)) 0
theorem facS_snoc (s : Sx) (fr : List Nat) (i : Nat) : facS s (fr ++ [i]) = wrap64 (facS s fr + s.factor.getD i 0) := by unfold facS; rw [List.foldl_append]; rfl
def mOkS (k : Nat) (s : Sx) : Bool := s.gr || (List.range s.items.length).all (fun i => (spec_MulDiv.f k (s.items.getD i z66).f0 (s.factor.getD i 0) 1000).isSome)
def rstS (s : Sx) : Int := restF s.first (facS s (frN s.fixed s.items.length)) (leftN s s.items.length)
def nS (gr : Bool) (r base sh : Int) : Int := if (gr && decide (r > 0)) = true then wrap64 (base + sh) else if (!gr && decide (r < 0)) = true then (if wrap64 (base - sh) < 0 then 0 else wrap64 (base - sh)) else base
def pF (s : Sx) (r : Int) (p : Nat × Int) : Int := fitI (s.items.getD p.1 z66) (nS s.gr r (s.items.getD p.1 z66).f0 p.2)
def pD (s : Sx) (r : Int) (p : Nat × Int) : Int := wrap64 (pF s r p - nS s.gr r (s.items.getD p.1 z66).f0 p.2)
def totS (s : Sx) (r : Int) (ps : List (Nat × Int)) : Int := ps.foldl (fun v p => wrap64 (v + pD s r p)) 0
theorem totS_snoc (s : Sx) (r : Int) (ps : List (Nat × Int)) (p : Nat × Int) : totS s r (ps ++ [p]) = wrap64 (totS s r ps + pD s r p) := by unfold totS; rw [List.foldl_append]; rfl
def szS (s : Sx) (r : Int) (ps : List (Nat × Int)) : List Int := ps.foldl (fun l p => l.set p.1 (pF s r p)) s.size
theorem szS_snoc (s : Sx) (r : Int) (ps : List (Nat × Int)) (p : Nat × Int) : szS s r (ps ++ [p]) = (szS s r ps).set p.1 (pF s r p) := by unfold szS; rw [List.foldl_append]; rfl
def hitS (tot d : Int) : Bool := (decide (tot = 0) || (decide (tot > 0) && decide (d > 0))) || (decide (tot < 0) && decide (d < 0))
def fxS (s : Sx) (r tot : Int) (ps : List (Nat × Int)) : List Bool := ps.foldl (fun l p => if hitS tot (pD s r p) = true then l.set p.1 true else l) s.fixed
theorem fxS_snoc (s : Sx) (r tot : Int) (ps : List (Nat × Int)) (p : Nat × Int) : fxS s r tot (ps ++ [p]) = if hitS tot (pD s r p) = true then (fxS s r tot ps).set p.1 true else fxS s r tot ps := by unfold fxS; rw [List.foldl_append]; rfl
theorem szS_len (s : Sx) (r : Int) (ps : List (Nat × Int)) : (szS s r ps).length = s.size.length := by
 unfold szS
 generalize s.size = l
 induction ps generalizing l with
 | nil => rfl
 | cons p t ih => rw [List.foldl_cons, ih, List.length_set]
theorem fxS_len (s : Sx) (r tot : Int) (ps : List (Nat × Int)) : (fxS s r tot ps).length = s.fixed.length := by
 unfold fxS
 generalize s.fixed = l
 induction ps generalizing l with
 | nil => rfl
 | cons p t ih => rw [List.foldl_cons, ih]; split <;> simp
def Sx.with1 (s : Sx) (sz : List Int) : Sx := ⟨s.items, sz, s.fixed, s.factor, s.gr, s.room, s.first⟩
def roundSX (s : Sx) (shs : List Int) : Sx :=
 let ps := (frN s.fixed s.items.length).zip shs
 ⟨s.items, szS s (rstS s) ps, fxS s (rstS s) (totS s (rstS s) ps) ps, s.factor, s.gr, s.room, s.first⟩
def roundSO (k : Nat) (s : Sx) : Option Sx :=
 if mOkS k s = true then
  match spec_l16Spread.f k (absI (rstS s)) ((frN s.fixed s.items.length).map (wtS k s)) with
  | none => none
  | some shs => if shs.length = (frN s.fixed s.items.length).length then some (roundSX s shs) else none
 else none
theorem absS_calls (v : Int) (W : World) : Calls Try.prog 146 #[.int .i64 v] W fun e w' => e = .returned (.int .i64 (absI v)) ∧ Drawn0 W w' := spec_l16Abs.calls v _ W (by unfold spec_l16Abs.f absI; split <;> rfl)
theorem fitS_eq (it : S66) (n : Int) : spec_l16Fit.f 1 it.f0 it.f1 it.f2 it.f3 it.f4 n = some (fitI it n) := by
 unfold spec_l16Fit.f spec_l16Fit.j0 fitI mx mn
 have e2 : ∀ a b : Int, (if a < b then some b else some a) = some (if a < b then b else a) := fun a b => by split <;> rfl
 by_cases h : it.f4 ≥ 0
 · by_cases h2 : n > it.f4
   · have h3 : it.f4 < n := h2
     simp only [if_pos h, decide_eq_true h2, if_true, e2, if_pos h3]
   · have h3 : ¬ it.f4 < n := h2
     simp only [if_pos h, decide_eq_false h2, if_neg (show ¬ (false = true) by decide), e2, if_neg h3]
 · simp only [if_neg h, if_neg (show ¬ (false = true) by decide), e2]
theorem R_lt' {α : Type} {d : Kd α} {e base : Nat} {ok : Nat → Prop} {W : World} {v : Value} {xs : List α} (h : d.R e W base ok v xs) : d.R e W base (fun k => k < W.heap.size) v xs := Kd.R_mono (Kd.R_bound h) (fun k hk => hk.2.2.1)
theorem set_cell {e base cap g : Nat} {ok : Nat → Prop} {W : World} {xs : List Int} {i : Nat} {x : Int} (h : Kd.R (Kd.int .i64) e W base ok (.slice (some ⟨g, 0, none⟩) xs.length cap) (xs.set i x)) (hi : i < xs.length) : W.cell? ⟨g, i, none⟩ = some (.int .i64 x) := by
 have h2 : Kd.R (Kd.int .i64) e W base ok (.slice (some ⟨g, 0, none⟩) (xs.set i x).length cap) (xs.set i x) := by rw [List.length_set]; exact h
 have h3 := (cell_at 0 h2 i (by rw [List.length_set]; exact hi)).1
 rw [List.getD_eq_getElem?_getD, List.getElem?_set_self hi] at h3
 exact h3
theorem lim_map {α β : Type} (f : α → β) {ps : List α} {n m : Nat} (h1 : ps.length ≤ n) (h2 : m ≤ 1000000) (h3 : n < m) : ((ps.map f).length + 1) * 8 ≤ 140737488355328 := by
 rw [List.length_map]
 omega
theorem R_apart2 {α : Type} {enc : α → Value} {q1 : ∀ x, (enc x).oneCell' = true} {e base : Nat} {ok : Nat → Prop} {w w1 : World} {v : Value} {xs : List α} {row : Option Nat} (h : (Kd.scalar enc q1).R e w base ok v xs) (hg : w.grownBy w1 row) (hne : ∀ k, v.ownBlock = some k → some k ≠ row) : (Kd.scalar enc q1).R e w1 base ok v xs :=
 Kd.R_mono (Kd.R_grown (ok := fun k => ok k ∧ some k ≠ row) (Kd.R_of_own (Kd.own_of_R h) (fun k hk => ⟨h.1 k hk, hne k hk⟩)) hg (fun k hk => hk.2)) (fun k hk => hk.1)
/-- Two rows of the call's own stay apart where one of them grows. -/
theorem apart_grow {α : Type} {d : Kd α} {e base : Nat} {ok : Nat → Prop} {W : World} {v v' u : Value} {ys : List α} (hu : d.R e W base ok u ys) (hne : ∀ k, u.ownBlock = some k → some k ≠ v.ownBlock) (hat : v'.ownBlock = v.ownBlock ∨ ∃ b, v'.ownBlock = some b ∧ W.heap.size ≤ b) : ∀ k, u.ownBlock = some k → some k ≠ v'.ownBlock := by
 intro k hk
 rcases hat with h | ⟨b, h, hb⟩
 · rw [h]; exact hne k hk
 · rw [h]; intro e; injection e with e; have := ((Kd.R_bound hu).1 k hk).2.2.1; omega
theorem apart_grow' {α : Type} {d : Kd α} {e base : Nat} {ok : Nat → Prop} {W : World} {v v' u : Value} {ys : List α} (hu : d.R e W base ok u ys) (hne : ∀ k, v.ownBlock = some k → some k ≠ u.ownBlock) (hat : v'.ownBlock = v.ownBlock ∨ ∃ b, v'.ownBlock = some b ∧ W.heap.size ≤ b) : ∀ k, v'.ownBlock = some k → some k ≠ u.ownBlock := by
 intro k hk e
 exact apart_grow hu (fun k hk e => hne k e.symm hk.symm) hat k e.symm hk.symm
theorem own_ge {α : Type} {d : Kd α} {e base : Nat} {ok : Nat → Prop} {W : World} {u : Value} {ys : List α} (hu : d.R e W base ok u ys) {B : Nat} (hB : B ≤ base) : ∀ k, u.ownBlock = some k → B ≤ k := fun k hk => Nat.le_trans hB ((Kd.R_bound hu).1 k hk).2.1
set_option maxHeartbeats 8000000 in
set_option maxRecDepth 100000 in
theorem roundS1 (k : Nat) (w0 w : World) (g b1 B : Nat) (A0 : Option Addr) (c0 : Nat) (ua ub uc : Value) (s s' : Sx) (hF : FS w0 w g b1 B A0 c0 ua ub uc s) (hBB : B ≤ w.heap.size) (hl : s.items.length ≤ 1000000) (h : mOkS k s = true) (h2 : frN s.fixed s.items.length ≠ [] → roundSO k s = some s') (h3 : frN s.fixed s.items.length = [] → s' = s) :
 Calls Try.prog 120 #[.pointer (some ⟨g, 0, none⟩)] w fun e w' => e = .returned (.bool (!decide (frN s.fixed s.items.length = []))) ∧ FS w0 w' g b1 B A0 c0 ua ub uc s' ∧ w.heap.size ≤ w'.heap.size := by
 have hu66 := Try.underlying66
 have hu134 := Try.underlying134
 have HF := aMk hF
 have HBB := aMk hBB
 have HL := aMk hl
 have HM := aMk h
 have HR2 := aMk h2
 have HR3 := aMk h3
 have HB := aMk (Below.refl w.heap.size w)
 clear hF hBB hl h h2 h3
 go_enter Try.func120, Try.ntmps120
 go_wp2_with (first | ((with_reducible refine gate_dst (N := 16) rfl ?_); refine Kd.R_lit (Kd.int .i64) _ 3 ?hg (N := 16) ?hd (xs := ([] : List Int)) (inner := []) (ok := fun _ => True) (okp := fun _ => True) ?hr ?hp (fun _ hk => hk) trivial (Below.refl _ _) (Nat.le_refl _) (by simp) ?_; (case hd => rfl); (case hg => rfl); (case hr => first | (go_simp; done) | (go_simp; rfl)); (case hp => exact (Reps.none _ _)); intro v3 w3 ho hb hg_ hnew_; have HOP := aMk ho; have HB3 := aMk hb; have HF3 := aMk (HF.out.below hb); clear hg_ hnew_ hb ho HB) | ((with_reducible refine gate_dst (N := 17) rfl ?_); refine Kd.R_lit (Kd.int .i64) _ 3 ?hg (N := 17) ?hd (xs := ([] : List Int)) (inner := []) (ok := fun _ => True) (okp := fun _ => True) ?hr ?hp (fun _ hk => hk) trivial (Below.refl _ _) (Nat.le_refl _) (by simp) ?_; (case hd => rfl); (case hg => rfl); (case hr => first | (go_simp; done) | (go_simp; rfl)); (case hp => exact (Reps.none _ _)); intro v4 w4 ho hb hg_ hnew_; have HNE4 : Aside0 (∀ k, v3.ownBlock = some k → some k ≠ v4.ownBlock) := ⟨fun k hk e => by have h1 := ((Kd.R_bound ho).1 k e.symm).2.1; have h2 := ((Kd.R_bound HOP.out).1 k hk).2.2.1; omega⟩; have HOW := aMk (Kd.R_lower (base' := w.heap.size) ho HB3.out.size); have HB4 := aMk (below_step HB3.out hb); have HOP4 := aMk (Kd.R_below HOP.out hb); have HF4 := aMk (HF3.out.below hb); clear hg_ hnew_ hb ho HB3 HOP HF3))
 have y0 : w4.cell? ⟨g, 0, none⟩ = some (.slice A0 s.items.length c0) := bCe HF4.out.blk 0
 go_loopg [3, 4, 5, 6, 7] s.items.length (fun kq v3 v4 v5 v6 v7 w' => ∃ n : Nat, v6 = .int .i64 (n : Int) ∧ v5 = .int .i64 (facS s (frN s.fixed n)) ∧ Aside0 (n + kq = s.items.length) ∧ Aside0 (Kd.R (Kd.int .i64) 3 w' w.heap.size (fun _ => True) v3 ((frN s.fixed n).map Int.ofNat)) ∧ Aside0 (Kd.R (Kd.int .i64) 3 w' w.heap.size (fun _ => True) v4 ((frN s.fixed n).map (wtS k s))) ∧ Aside0 (∀ k, v3.ownBlock = some k → some k ≠ v4.ownBlock) ∧ Aside0 (FS w0 w' g b1 B A0 c0 ua ub uc s) ∧ Aside0 (Below w.heap.size w w') ∧ w'.cell? ⟨g, 0, none⟩ = some (.slice A0 s.items.length c0))
 case atStart => exact ⟨0, rfl, rfl, ⟨by simp⟩, ⟨HOP4.out⟩, ⟨HOW.out⟩, HNE4, HF4, HB4, y0⟩
 case round =>
  clear HOP4 HOW HB4 HF4 HNE4 y0
  obtain ⟨n, rfl, rfl, HN, HOP, HOW, HNE, HF, HB, y0⟩ := hrel
  by_cases c1 : n < s.items.length
  · as_aux_lemma =>
    have hk : gk ≠ 0 := by have := HN.out; omega
    obtain ⟨k1, rfl⟩ := Nat.exists_eq_succ_of_ne_zero hk
    clear hk
    have HN2 : Aside0 (n + 1 + k1 = s.items.length) := ⟨by have := HN.out; omega⟩
    have d1 : decide ((n : Int) < (s.items.length : Int)) = true := decide_eq_true (by omega)
    have d2 : decide (n < s.items.length) = true := decide_eq_true c1
    have l2 := HF.out.l2
    have l3 := HF.out.l3
    obtain ⟨g2, p2, rfl, _, _, _, _⟩ := own_some HF.out.r2 (by omega)
    obtain ⟨g3, p3, rfl, _, _, _, _⟩ := own_some HF.out.r3 (by omega)
    obtain ⟨ad, eA, z0, _, _, _, _⟩ := HF.out.item n c1
    cases eA
    have t2 : wr.cell? ⟨g, 2, none⟩ = some (.slice (some ⟨g2, 0, none⟩) s.fixed.length p2) := bCe HF.out.blk 2
    have z2 : wr.cell? ⟨g2, n, none⟩ = some (.bool (s.fixed.getD n false)) := (cell_at false HF.out.r2 n (by omega)).1
    have z3 : wr.cell? ⟨g3, n, none⟩ = some (.int .i64 (s.factor.getD n 0)) := (cell_at 0 HF.out.r3 n (by omega)).1
    have q0 : 0 ≤ (n : Int) := by omega
    have q1 : (n : Int) < (s.items.length : Int) := by omega
    have q3 : (n : Int) < (s.fixed.length : Int) := by omega
    have q4 : (n : Int) < (s.factor.length : Int) := by omega
    have HLT3 : Aside0 (n < s.factor.length) := ⟨by omega⟩
    have hw : Aside0 (wrap64 ((n : Int) + 1) = ((n + 1 : Nat) : Int)) := ⟨by have := HL.out; unfold wrap64; omega⟩
    have HC1 := aMk c1
    have hfixed := @frN_fix s.fixed n
    have hopen := @frN_open s.fixed n
    have HRL := aMk (frN_len s.fixed n)
    have hmok : s.gr = false → (spec_MulDiv.f k (s.items.getD n z66).f0 (s.factor.getD n 0) 1000).isSome = true := by
     intro hg0
     have h := HM.out
     unfold mOkS at h
     rw [hg0, Bool.false_or, List.all_eq_true] at h
     exact h n (List.mem_range.2 c1)
    obtain ⟨it, hit⟩ : ∃ x, x = (s.items.getD n z66).f0 := ⟨_, rfl⟩
    obtain ⟨fa, hfa⟩ : ∃ x, x = s.factor.getD n 0 := ⟨_, rfl⟩
    obtain ⟨fx, hfx⟩ : ∃ x, x = s.fixed.getD n false := ⟨_, rfl⟩
    obtain ⟨ps, hps⟩ : ∃ ps, ps = frN s.fixed n := ⟨_, rfl⟩
    obtain ⟨fc, hfc⟩ : ∃ fc, fc = facS s ps := ⟨_, rfl⟩
    have HWT : Aside0 (s.gr = true → wtS k s n = fa) := ⟨fun h => by unfold wtS; rw [if_pos h, hfa]⟩
    have HWF : Aside0 (∀ mv, s.gr = false → spec_MulDiv.f k it fa 1000 = some mv → wtS k s n = mv) := ⟨fun mv h h2 => by unfold wtS; rw [if_neg (by rw [h]; decide), ← hit, ← hfa, h2]; rfl⟩
    have HFS : Aside0 (facS s (ps ++ [n]) = wrap64 (fc + fa)) := ⟨by rw [facS_snoc, ← hfc, ← hfa]⟩
    rw [← hit, ← hfa] at hmok
    rw [← hit] at z0
    rw [← hfx] at z2 hfixed hopen
    rw [← hfa] at z3
    rw [← hps] at HOP HOW HRL hfixed hopen ⊢
    rw [← hfc]
    have HFC := aMk hfc
    have HIT := aMk hit
    have HFA := aMk hfa
    have HMK := aMk hmok
    clear hit hfa hfx hps hfc hmok l2 l3 c1
    have HPL2 : Aside0 (((ps.map Int.ofNat).length + 1) * 8 ≤ 140737488355328) := ⟨lim_map _ HRL.out HL.out HC1.out⟩
    have HWL2 : Aside0 (((ps.map (wtS k s)).length + 1) * 8 ≤ 140737488355328) := ⟨lim_map _ HRL.out HL.out HC1.out⟩
    cases fx
    · have HOPN := aMk (hopen rfl)
      clear hfixed hopen
      obtain ⟨gr, hgr⟩ : ∃ gr, gr = s.gr := ⟨_, rfl⟩
      have HGR := aMk hgr
      clear hgr
      cases gr
      · obtain ⟨mv, hmv⟩ := Option.isSome_iff_exists.1 (HMK.out HGR.out.symm)
        have HMV := aMk hmv
        clear hmv
        go_upto_region 12 with (((with_reducible refine gate_builtin (b := .append) (xs := #[.tmp 35, .tmp 37]) rfl ?_); at_builtin; refine Kd.R_append (Kd.int .i64) (w0 := w) w.heap.size rfl (.tmp 35) (.tmp 37) 22 3 (.int .i64 0) 8 rfl Try.underlying22 info3 rfl (by decide) (by omega) _ (ps.map Int.ofNat) (n : Int) [.int .i64 (n : Int)] (fun _ => True) (fun _ => False) rfl ?q1 rfl (fun _ hk => hk.elim) (fun _ _ => trivial) ?q2 ?q3 ?q4 ?hl ?_; (case q1 => first | (go_simp; done) | (go_simp; rfl)); (case q2 => exact HOP.out); (case q3 => exact HB.out); (case q4 => exact Below.size HB.out); (case hl => exact HPL2.out); intro v5 w5 ho hb hg hat; have HOP5 := aMk ho; have HB5 := aMk hb; have HOW5 := aMk (R_apart2 HOW.out hg (fun k hk e => HNE.out k e.symm hk.symm)); have HNE5 := aMk (apart_grow' HOW.out HNE.out hat); have HF5 := aMk (HF.out.away hg (own_ge HOP.out HBB.out)); have t0 : w5.cell? ⟨g, 0, none⟩ = some (.slice (some ad) s.items.length c0) := bCe HF5.out.blk 0; have t3 : w5.cell? ⟨g, 3, none⟩ = some (.slice (some ⟨g3, 0, none⟩) s.factor.length p3) := bCe HF5.out.blk 3; have t4 : w5.cell? ⟨g, 4, none⟩ = some (.bool false) := (bCe HF5.out.blk 4).trans (by rw [← HGR.out]; rfl); have ti : w5.cell? (ad.add (n * 5)) = some (.int .i64 it) := (HF5.out.item1 n HC1.out).trans (by rw [HIT.out]); have tf : w5.cell? ⟨g3, n, none⟩ = some (.int .i64 fa) := (cell_at 0 HF5.out.r3 n HLT3.out).1.trans (by rw [HFA.out]); clear ho hb hg hat))
        refine start_ (n := 17) (S := fun w' => w'.cell? ⟨g, 0, none⟩ = some (.slice (some ad) s.items.length c0) ∧ w'.cell? ⟨g, 3, none⟩ = some (.slice (some ⟨g3, 0, none⟩) s.factor.length p3) ∧ w'.cell? (ad.add (n * 5)) = some (.int .i64 it) ∧ w'.cell? ⟨g3, n, none⟩ = some (.int .i64 fa)) (ds := []) #[false, false, false, false, false, false, false, false, false, false, false, false, false, false, false, false, false] (by kernel_rfl) rfl rfl ⟨t0, t3, ti, tf⟩ (fun hHeld => ?_)
        refine pure_ (i := 0) (N := some 60) (v := ?_) (a' := ?_) #[true, false, false, false, false, false, false, false, false, false, false, false, false, false, false, false, false] rfl rfl (by kernel_rfl) (fun _ _ _ h => h) (Or.inl ⟨by rfl, ?_⟩) ?_ ?_
        rotate_left
        · intro w'
          go_simp
          with_reducible rfl
        rotate_left
        · simp only [Act.put, lSa, lSz, lSs, i64_w, i32_w]
          rfl
        refine pure_ (i := 1) (N := some 61) (v := ?_) (a' := ?_) #[true, true, false, false, false, false, false, false, false, false, false, false, false, false, false, false, false] rfl rfl (by kernel_rfl) (fun _ _ _ h => h) (Or.inl ⟨by rfl, ?_⟩) ?_ ?_
        rotate_left
        · intro w'
          go_simp
          with_reducible rfl
        rotate_left
        · simp only [Act.put, lSa, lSz, lSs, i64_w, i32_w]
          rfl
        refine pure_ (i := 2) (N := some 62) (v := ?_) (a' := ?_) #[true, true, true, false, false, false, false, false, false, false, false, false, false, false, false, false, false] rfl rfl (by kernel_rfl) (fun _ _ _ h => h) (Or.inl ⟨by rfl, ?_⟩) ?_ ?_
        rotate_left
        · intro w'
          go_simp
          with_reducible rfl
        rotate_left
        · simp only [Act.put, lSa, lSz, lSs, i64_w, i32_w]
          rfl
        refine pure_ (i := 4) (N := some 64) (v := ?_) (a' := ?_) #[true, true, true, false, true, false, false, false, false, false, false, false, false, false, false, false, false] rfl rfl (by kernel_rfl) (fun _ _ _ h => h) (Or.inl ⟨by rfl, ?_⟩) ?_ ?_
        rotate_left
        · intro w'
          go_simp
          with_reducible rfl
        rotate_left
        · simp only [Act.put, lSa, lSz, lSs, i64_w, i32_w]
          rfl
        refine pure_ (i := 8) (N := some 68) (v := ?_) (a' := ?_) #[true, true, true, false, true, false, false, false, true, false, false, false, false, false, false, false, false] rfl rfl (by kernel_rfl) (fun _ _ _ h => h) (Or.inl ⟨by rfl, ?_⟩) ?_ ?_
        rotate_left
        · intro w'
          go_simp
          with_reducible rfl
        rotate_left
        · simp only [Act.put, lSa, lSz, lSs, i64_w, i32_w]
          rfl
        refine pure_ (i := 9) (N := some 69) (v := ?_) (a' := ?_) #[true, true, true, false, true, false, false, false, true, true, false, false, false, false, false, false, false] rfl rfl (by kernel_rfl) (fun _ _ _ h => h) (Or.inl ⟨by rfl, ?_⟩) ?_ ?_
        rotate_left
        · intro w'
          go_simp
          with_reducible rfl
        rotate_left
        · simp only [Act.put, lSa, lSz, lSs, i64_w, i32_w]
          rfl
        refine pure_ (i := 10) (N := some 70) (v := ?_) (a' := ?_) #[true, true, true, false, true, false, false, false, true, true, true, false, false, false, false, false, false] rfl rfl (by kernel_rfl) (fun _ _ _ h => h) (Or.inl ⟨by rfl, ?_⟩) ?_ ?_
        rotate_left
        · intro w'
          go_simp
          with_reducible rfl
        rotate_left
        · simp only [Act.put, lSa, lSz, lSs, i64_w, i32_w]
          rfl
        refine pure_ (i := 12) (N := some 72) (v := ?_) (a' := ?_) #[true, true, true, false, true, false, false, false, true, true, true, false, true, false, false, false, false] rfl rfl (by kernel_rfl) (fun _ _ _ h => h) (Or.inl ⟨by rfl, ?_⟩) ?_ ?_
        rotate_left
        · intro w'
          go_simp
          with_reducible rfl
        rotate_left
        · simp only [Act.put, lSa, lSz, lSs, i64_w, i32_w]
          rfl
        refine take_ (i := 3) (N := some 63) (v := ?_) (a' := ?_) #[true, true, true, true, true, false, false, false, true, true, true, false, true, false, false, false, false] rfl rfl (by kernel_rfl) (fun _ _ _ h => h) (Or.inl ⟨by rfl, ?_⟩) hHeld ?_ ?_
        rotate_left
        · rintro w' ⟨s0, s1, s2, s3⟩
          go_simp
          with_reducible rfl
        rotate_left
        · simp only [Act.put, lSa, lSz, lSs, i64_w, i32_w]
          rfl
        refine pure_ (i := 5) (N := some 65) (v := ?_) (a' := ?_) #[true, true, true, true, true, true, false, false, true, true, true, false, true, false, false, false, false] rfl rfl (by kernel_rfl) (fun _ _ _ h => h) (Or.inl ⟨by rfl, ?_⟩) ?_ ?_
        rotate_left
        · intro w'
          go_simp
          with_reducible rfl
        rotate_left
        · simp only [Act.put, lSa, lSz, lSs, i64_w, i32_w]
          rfl
        refine pure_ (i := 6) (N := some 66) (v := ?_) (a' := ?_) #[true, true, true, true, true, true, true, false, true, true, true, false, true, false, false, false, false] rfl rfl (by kernel_rfl) (fun _ _ _ h => h) (Or.inl ⟨by rfl, ?_⟩) ?_ ?_
        rotate_left
        · intro w'
          go_simp
          with_reducible rfl
        rotate_left
        · simp only [Act.put, lSa, lSz, lSs, i64_w, i32_w]
          rfl
        refine take_ (i := 7) (N := some 67) (v := ?_) (a' := ?_) #[true, true, true, true, true, true, true, true, true, true, true, false, true, false, false, false, false] rfl rfl (by kernel_rfl) (fun _ _ _ h => h) (Or.inl ⟨by rfl, ?_⟩) hHeld ?_ ?_
        rotate_left
        · rintro w' ⟨s0, s1, s2, s3⟩
          go_simp
          with_reducible rfl
        rotate_left
        · simp only [Act.put, lSa, lSz, lSs, i64_w, i32_w]
          rfl
        refine take_ (i := 11) (N := some 71) (v := ?_) (a' := ?_) #[true, true, true, true, true, true, true, true, true, true, true, true, true, false, false, false, false] rfl rfl (by kernel_rfl) (fun _ _ _ h => h) (Or.inl ⟨by rfl, ?_⟩) hHeld ?_ ?_
        rotate_left
        · rintro w' ⟨s0, s1, s2, s3⟩
          go_simp
          with_reducible rfl
        rotate_left
        · simp only [Act.put, lSa, lSz, lSs, i64_w, i32_w]
          rfl
        refine pure_ (i := 13) (N := some 73) (v := ?_) (a' := ?_) #[true, true, true, true, true, true, true, true, true, true, true, true, true, true, false, false, false] rfl rfl (by kernel_rfl) (fun _ _ _ h => h) (Or.inl ⟨by rfl, ?_⟩) ?_ ?_
        rotate_left
        · intro w'
          go_simp
          with_reducible rfl
        rotate_left
        · simp only [Act.put, lSa, lSz, lSs, i64_w, i32_w]
          rfl
        refine take_ (i := 14) (N := some 74) (v := ?_) (a' := ?_) #[true, true, true, true, true, true, true, true, true, true, true, true, true, true, true, false, false] rfl rfl (by kernel_rfl) (fun _ _ _ h => h) (Or.inl ⟨by rfl, ?_⟩) hHeld ?_ ?_
        rotate_left
        · rintro w' ⟨s0, s1, s2, s3⟩
          go_simp
          with_reducible rfl
        rotate_left
        · simp only [Act.put, lSa, lSz, lSs, i64_w, i32_w]
          rfl
        refine one_ (i := 15) (N := some 75) #[true, true, true, true, true, true, true, true, true, true, true, true, true, true, true, true, false] rfl rfl (by kernel_rfl) (by decide) (fun K hK => ?_)
        refine goes_ Try.func129 (by kernel_rfl) rfl #[.int .i64 it, .int .i64 fa, .int .i64 1000] (by rfl) rfl rfl (by simp only [List.map_toArray, List.map_cons, List.map_nil]; rfl) ?_
        with_reducible refine (spec_MulDiv.calls k it fa 1000 mv _ HMV.out).mono ?_
        rintro e wm ⟨rfl, hdm⟩
        refine ⟨_, rfl, ?_⟩
        have HBM := aMk (below_then (below_drew (Below.refl w5.heap.size w5)) (Nat.le_refl _) hdm.below)
        clear hdm
        refine hK.out _ _ ⟨(pw_cell_below HBM.out t0), (pw_cell_below HBM.out t3), (pw_cell_below HBM.out ti), (pw_cell_below HBM.out tf)⟩ (fun hHeld => ?_)
        clear hK K
        refine norm_ (a' := ?_) ?_ ?_
        rotate_left
        · show Act.put _ (some 75) _ = _
          simp only [Act.put, lSa, lSz, lSs, i64_w, i32_w]
          rfl
        refine pure_ (i := 16) (N := some 7) (v := ?_) (a' := ?_) #[true, true, true, true, true, true, true, true, true, true, true, true, true, true, true, true, true] rfl rfl (by kernel_rfl) (fun _ _ _ h => h) (Or.inl ⟨by rfl, ?_⟩) ?_ ?_
        rotate_left
        · intro w'
          go_simp
          with_reducible rfl
        rotate_left
        · simp only [Act.put, lSa, lSz, lSs, i64_w, i32_w]
          rfl
        refine done_ (by kernel_rfl) ?_
        have HOWm := aMk (Kd.R_below HOW5.out HBM.out)
        have HOPm := aMk (Kd.R_below HOP5.out HBM.out)
        have HBm := aMk (below_step HB5.out HBM.out)
        have HFm := aMk (HF5.out.below HBM.out)
        clear t0 t3 t4 ti tf
        go_wp2_with (first | ((with_reducible refine gate_builtin (b := .append) (xs := #[.tmp 76, .tmp 78]) rfl ?_); at_builtin; refine Kd.R_append (Kd.int .i64) (w0 := w) w.heap.size rfl (.tmp 76) (.tmp 78) 22 3 (.int .i64 0) 8 rfl Try.underlying22 info3 rfl (by decide) (by omega) _ (ps.map (wtS k s)) mv [.int .i64 mv] (fun _ => True) (fun _ => False) rfl ?q1 rfl (fun _ hk => hk.elim) (fun _ _ => trivial) ?q2 ?q3 ?q4 ?hl ?_; (case q1 => first | (go_simp; done) | (go_simp; rfl)); (case q2 => exact HOWm.out); (case q3 => exact HBm.out); (case q4 => exact Below.size HBm.out); (case hl => exact HWL2.out); intro v8 w8 ho hb hg hat; have HOW8 := aMk ho; have HB8 := aMk hb; have HOP8 := aMk (R_apart2 HOPm.out hg HNE5.out); have HNE8 := aMk (apart_grow HOPm.out HNE5.out hat); have HF8 := aMk (HFm.out.away hg (own_ge HOWm.out HBB.out)); have y08 : w8.cell? ⟨g, 0, none⟩ = some (.slice (some ad) s.items.length c0) := bCe HF8.out.blk 0; clear ho hb hg hat))
        go_roundg k1
        case measure => omega
        case rel => exact ⟨n + 1, by first | rw [hw.out] | rfl | go_num, by rw [HOPN.out, HFS.out], HN2, ⟨by rw [HOPN.out, List.map_append]; exact HOP8.out⟩, ⟨by rw [HOPN.out, List.map_append]; have h8 := HOW8.out; rw [← HWF.out mv HGR.out.symm HMV.out] at h8; exact h8⟩, HNE8, HF8, HB8, y08⟩
      · go_wp2_with (first | ((with_reducible refine gate_builtin (b := .append) (xs := #[.tmp 35, .tmp 37]) rfl ?_); at_builtin; refine Kd.R_append (Kd.int .i64) (w0 := w) w.heap.size rfl (.tmp 35) (.tmp 37) 22 3 (.int .i64 0) 8 rfl Try.underlying22 info3 rfl (by decide) (by omega) _ (ps.map Int.ofNat) (n : Int) [.int .i64 (n : Int)] (fun _ => True) (fun _ => False) rfl ?q1 rfl (fun _ hk => hk.elim) (fun _ _ => trivial) ?q2 ?q3 ?q4 ?hl ?_; (case q1 => first | (go_simp; done) | (go_simp; rfl)); (case q2 => exact HOP.out); (case q3 => exact HB.out); (case q4 => exact Below.size HB.out); (case hl => exact HPL2.out); intro v5 w5 ho hb hg hat; have HOP5 := aMk ho; have HB5 := aMk hb; have HOW5 := aMk (R_apart2 HOW.out hg (fun k hk e => HNE.out k e.symm hk.symm)); have HNE5 := aMk (apart_grow' HOW.out HNE.out hat); have HF5 := aMk (HF.out.away hg (own_ge HOP.out HBB.out)); have t0 : w5.cell? ⟨g, 0, none⟩ = some (.slice (some ad) s.items.length c0) := bCe HF5.out.blk 0; have t3 : w5.cell? ⟨g, 3, none⟩ = some (.slice (some ⟨g3, 0, none⟩) s.factor.length p3) := bCe HF5.out.blk 3; have t4 : w5.cell? ⟨g, 4, none⟩ = some (.bool true) := (bCe HF5.out.blk 4).trans (by rw [← HGR.out]; rfl); have tf : w5.cell? ⟨g3, n, none⟩ = some (.int .i64 fa) := (cell_at 0 HF5.out.r3 n HLT3.out).1.trans (by rw [HFA.out]); clear ho hb hg hat) | ((with_reducible refine gate_builtin (b := .append) (xs := #[.tmp 76, .tmp 78]) rfl ?_); at_builtin; refine Kd.R_append (Kd.int .i64) (w0 := w) w.heap.size rfl (.tmp 76) (.tmp 78) 22 3 (.int .i64 0) 8 rfl Try.underlying22 info3 rfl (by decide) (by omega) _ (ps.map (wtS k s)) fa [.int .i64 fa] (fun _ => True) (fun _ => False) rfl ?q1 rfl (fun _ hk => hk.elim) (fun _ _ => trivial) ?q2 ?q3 ?q4 ?hl ?_; (case q1 => first | (go_simp; done) | (go_simp; rfl)); (case q2 => exact HOW5.out); (case q3 => exact HB5.out); (case q4 => exact Below.size HB5.out); (case hl => exact HWL2.out); intro v8 w8 ho hb hg hat; have HOW8 := aMk ho; have HB8 := aMk hb; have HOP8 := aMk (R_apart2 HOP5.out hg HNE5.out); have HNE8 := aMk (apart_grow HOP5.out HNE5.out hat); have HF8 := aMk (HF5.out.away hg (own_ge HOW5.out HBB.out)); have y08 : w8.cell? ⟨g, 0, none⟩ = some (.slice (some ad) s.items.length c0) := bCe HF8.out.blk 0; clear ho hb hg hat))
        go_roundg k1
        case measure => omega
        case rel => exact ⟨n + 1, by first | rw [hw.out] | rfl | go_num, by rw [HOPN.out, HFS.out], HN2, ⟨by rw [HOPN.out, List.map_append]; exact HOP8.out⟩, ⟨by rw [HOPN.out, List.map_append]; have h8 := HOW8.out; rw [← HWT.out HGR.out.symm] at h8; exact h8⟩, HNE8, HF8, HB8, y08⟩
    · have HFIX := aMk (hfixed rfl)
      clear hfixed hopen
      go_wp2
      go_roundg k1
      case measure => omega
      case rel => exact ⟨n + 1, by first | rw [hw.out] | rfl | go_num, by rw [HFIX.out, ← HFC.out], HN2, ⟨by rw [HFIX.out]; exact HOP.out⟩, ⟨by rw [HFIX.out]; exact HOW.out⟩, HNE, HF, HB, y0⟩
  · have d1 : decide ((n : Int) < (s.items.length : Int)) = false := decide_eq_false (by omega)
    have d2 : decide (n < s.items.length) = false := decide_eq_false c1
    obtain rfl : n = s.items.length := by have := HN.out; omega
    have hrl := frN_len s.fixed s.items.length
    have hrm : ∀ i ∈ frN s.fixed s.items.length, i < s.items.length := fun i hi => frN_lt hi
    have hrs : rstS s = restF s.first (facS s (frN s.fixed s.items.length)) (leftN s s.items.length) := rfl
    have h2 := HR2.out
    unfold roundSO roundSX at h2
    rw [if_pos HM.out] at h2
    have h3 := HR3.out
    obtain ⟨fr, hfr⟩ : ∃ fr, fr = frN s.fixed s.items.length := ⟨_, rfl⟩
    rw [← hfr] at HOP HOW hrl hrm hrs h2 h3 ⊢
    obtain ⟨lf, hlf⟩ : ∃ lf, lf = leftN s s.items.length := ⟨_, rfl⟩
    obtain ⟨fc, hfc⟩ : ∃ fc, fc = facS s fr := ⟨_, rfl⟩
    obtain ⟨rst, hrst⟩ : ∃ r, r = rstS s := ⟨_, rfl⟩
    rw [← hrst, ← hfc, ← hlf] at hrs
    rw [← hrst] at h2
    rw [← hfc]
    have HLC : Aside0 (Calls Try.prog 119 #[.pointer (some ⟨g, 0, none⟩)] wr fun e w' => e = .returned (.int .i64 lf) ∧ wr = w') := ⟨by rw [hlf]; exact leftS_calls w0 wr g b1 B A0 c0 ua ub uc s HF.out HL.out⟩
    have HRST := aMk hrs
    have HRL := aMk hrl
    have HRM := aMk hrm
    have HS2 := aMk h2
    have HS3 := aMk h3
    obtain ⟨ws, hws⟩ : ∃ ws, ws = fr.map (wtS k s) := ⟨_, rfl⟩
    rw [← hws] at HOW HS2
    obtain ⟨fi, hfi⟩ : ∃ fi, fi = fr.map Int.ofNat := ⟨_, rfl⟩
    rw [← hfi] at HOP
    have HFI : Aside0 (fi.length = fr.length) := ⟨by rw [hfi, List.length_map]⟩
    have HFG : Aside0 (∀ m, fi.getD m 0 = ((fr.getD m 0 : Nat) : Int)) := ⟨fun m => by rw [hfi, List.getD_eq_getElem?_getD, List.getElem?_map, List.getD_eq_getElem?_getD]; cases fr[m]? <;> rfl⟩
    obtain ⟨A6, c6, rfl, hc6, hr6⟩ := Kd.R_reads HOP.out
    obtain ⟨A7, c7, rfl, hc7, hr7⟩ := Kd.R_reads HOW.out
    have HR7 := aMk hr7
    have HC7 := aMk hc7
    have y6 : wr.cell? ⟨g, 6, none⟩ = some (.int .i64 s.first) := bCe HF.out.blk 6
    have HFR := aMk hfr
    clear hfr hlf hfc hrst hrs hrl hrm h2 h3 hws hfi hc6 hr6 hc7 hr7 HN HOW HNE HR2 HR3 c1
    by_cases hz : fr = []
    · as_aux_lemma =>
      have z0 : fi.length = 0 := by rw [HFI.out, hz]; rfl
      have z1 : ((fi.length : Int) == 0) = true := beq_iff_eq.2 (by rw [z0]; rfl)
      have z2 : (fi.length == 0) = true := beq_iff_eq.2 z0
      have HZ := aMk hz
      clear hz z0
      go_wp2
      go_ret
      exact ⟨by rw [← HFR.out, HZ.out]; rfl, by rw [HS3.out HZ.out]; exact HF.out, HB.out.size⟩
    · have z0 : fi.length ≠ 0 := by rw [HFI.out]; exact fun h => hz (List.length_eq_zero_iff.1 h)
      have z1 : ((fi.length : Int) == 0) = false := beq_eq_false_iff_ne.2 (by omega)
      have z2 : (fi.length == 0) = false := beq_eq_false_iff_ne.2 z0
      have h2 := HS2.out hz
      have HZ := aMk hz
      clear hz z0 HS2 HS3
      cases hsp : spec_l16Spread.f k (absI rst) ws with
      | none => rw [hsp] at h2; cases h2
      | some shs =>
       rw [hsp] at h2
       dsimp only at h2
       by_cases hsl : shs.length = fr.length
       · rw [if_pos hsl] at h2
         have HS' := aMk (Option.some.inj h2)
         have HSP := aMk hsp
         have HSL := aMk hsl
         clear h2 hsp hsl
         go_upto_region 17 with (go_at_call 119; (with_reducible refine HLC.out.mono ?_); rintro e w7 ⟨rfl, rfl⟩)
         clear HLC
         go_cut [99] (fun v99 wc => v99 = .bool (decide (fc < 1000) && decide (absI (partF s.first fc) < absI lf)) ∧ Aside0 (Below wr.heap.size wr wc))
         case first =>
          by_cases hf : fc < 1000
          · have f1 := decide_eq_true hf
            go_wp2_with (first | (go_at_call 146; (with_reducible refine (absS_calls (wrap64 ((wrap64 (s.first * fc)).tdiv 1000)) wr).mono ?_); rintro e w8 ⟨rfl, hd8⟩; have HB8 := aMk hd8.below; clear hd8) | (go_at_call 146; (with_reducible refine (absS_calls lf w8).mono ?_); rintro e w9 ⟨rfl, hd9⟩; have HB9 := aMk (below_step HB8.out hd9.below); clear hd9))
            go_meet
            case rel => exact ⟨by unfold partF; rw [f1]; rfl, HB9⟩
          · have f1 := decide_eq_false hf
            go_wp2
            go_meet
            case rel => exact ⟨by rw [f1]; rfl, ⟨Below.refl _ _⟩⟩
         case rest =>
          obtain ⟨rfl, HB9⟩ := hcut
          have y6 := pw_cell_below HB9.out y6
          go_upto_if 99 with (fail)
          go_cut [8] (fun v8 wd => v8 = .int .i64 rst ∧ wd = wc)
          case first =>
           have hr0 := HRST.out
           unfold restF at hr0
           cases hb : (decide (fc < 1000) && decide (absI (partF s.first fc) < absI lf))
           all_goals
            rw [hb] at hr0
            first | rw [if_pos rfl] at hr0 | rw [if_neg (by decide)] at hr0
            have hr1 := aMk hr0
            clear hr0 hb
            go_wp2
            go_meet
            case rel => exact ⟨by rw [hr1.out]; try rfl, rfl⟩
          case rest =>
           as_aux_lemma =>
           obtain ⟨rfl, rfl⟩ := hcut
           have HBc := aMk (below_step HB.out HB9.out)
           have HOPc := aMk (Kd.R_below HOP.out HB9.out)
           have HFc := aMk (HF.out.below HB9.out)
           have HR7c := aMk (Kd.C_below HR7.out HB9.out)
           clear HB HOP HF HR7 HB9 y0 y6
           go_wp2_with (first | (go_at_call 146; (with_reducible refine (absS_calls rst wc).mono ?_); rintro e w10 ⟨rfl, hd10⟩; have HB10 := aMk hd10.below; clear hd10) | (go_at_call 94; (with_reducible refine (spec_l16Spread.calls k (absI rst) A7 c7 ws shs w10 (Kd.C_below HR7c.out HB10.out) HC7.out HSP.out).mono ?_); rintro e w11 ⟨v9, rfl, ho, hb⟩; have HB11c := aMk (below_step HB10.out hb); have HB11 := aMk (below_step HBc.out HB11c.out); have HSR := aMk (R_lt' (Kd.R_lower (base' := w.heap.size) ho (Nat.le_trans HBc.out.size HB10.out.size))); have HOP11 := aMk (R_lt' (Kd.R_below HOPc.out HB11c.out)); have HF11 := aMk (HFc.out.below HB11c.out); clear ho hb) | ((with_reducible refine gate_dst (N := 111) rfl ?_); refine Kd.R_lit (Kd.int .i64) _ 3 ?hg (N := 111) ?hd (xs := ([] : List Int)) (inner := []) (ok := fun _ => True) (okp := fun _ => True) ?hr ?hp (fun _ hk => hk) trivial (Below.refl _ _) (Nat.le_refl _) (by simp) ?_; (case hd => rfl); (case hg => rfl); (case hr => first | (go_simp; done) | (go_simp; rfl)); (case hp => exact (Reps.none _ _)); intro v11 w12 ho hb hg_ hnew_; have HCH := aMk ho; have HF12 := aMk (HF11.out.below hb); have HOP12 := aMk (Kd.R_below HOP11.out hb); have HSR12 := aMk (Kd.R_below HSR.out hb); have HSZ : Aside0 (w.heap.size ≤ w11.heap.size ∧ w11.heap.size ≤ w12.heap.size) := ⟨⟨HB11.out.size, hb.size⟩⟩; clear hg_ hnew_ hb ho HF11 HOP11 HSR))
           obtain ⟨bb, hbb⟩ : ∃ b, b = w11.heap.size := ⟨_, rfl⟩
           rw [← hbb] at HCH HSZ HOP12 HSR12
           obtain ⟨A8, c8, rfl, hc8, hr8⟩ := Kd.R_reads HSR12.out
           clear hbb hc8 hr8
           obtain ⟨ps, hps⟩ : ∃ ps, ps = fr.zip shs := ⟨_, rfl⟩
           have HPL : Aside0 (ps.length = fr.length) := ⟨by rw [hps, List.length_zip, HSL.out, Nat.min_self]⟩
           have HPG : Aside0 (∀ m, m < fr.length → ps.take (m + 1) = ps.take m ++ [(fr.getD m 0, shs.getD m 0)]) := ⟨fun m hm => by
            have hl : m < (fr.zip shs).length := by rw [List.length_zip, HSL.out, Nat.min_self]; exact hm
            rw [hps, List.take_succ_eq_append_getElem hl, List.getElem_zip, List.getD_eq_getElem?_getD, List.getElem?_eq_getElem hm, List.getD_eq_getElem?_getD, List.getElem?_eq_getElem (by rw [HSL.out]; exact hm)]
            rfl⟩
           rw [← hps] at HS'
           clear hps HSP HR7c HC7 HRST HFc HOPc HBc HB10 HB11c HB11
           have HSS : Aside0 (s = s.with1 (szS s rst (ps.take 0))) := ⟨rfl⟩
           go_loopg [10, 11, 12, 13, 14] fr.length (fun kq v10 v11 v12 v13 v14 w' => ∃ m : Nat, v12 = .int .i64 (m : Int) ∧ v10 = .int .i64 (totS s rst (ps.take m)) ∧ Aside0 (m + kq = fr.length) ∧ Aside0 (Kd.R (Kd.int .i64) 3 w' bb (fun _ => True) v11 ((ps.take m).map (pD s rst))) ∧ Aside0 (FS w0 w' g b1 B A0 c0 ua ub uc (s.with1 (szS s rst (ps.take m)))) ∧ Aside0 (Kd.R (Kd.int .i64) 3 w' w.heap.size (fun k => k < bb) (.slice A6 fi.length c6) fi) ∧ Aside0 (Kd.R (Kd.int .i64) 3 w' w.heap.size (fun k => k < bb) (.slice A8 shs.length c8) shs) ∧ Aside0 (w.heap.size ≤ bb ∧ bb ≤ w'.heap.size))
           case atStart => exact ⟨0, rfl, rfl, ⟨by simp⟩, HCH, ⟨by rw [← HSS.out]; exact HF12.out⟩, HOP12, HSR12, HSZ⟩
           case round =>
            clear HCH HF12 HOP12 HSR12 HSZ HSS
            obtain ⟨m, rfl, rfl, HN, HCH, HF, HOP, HSR, HSZ⟩ := hrel
            by_cases c1 : m < fr.length
            · as_aux_lemma =>
              have hk : gk ≠ 0 := by have := HN.out; omega
              obtain ⟨k1, rfl⟩ := Nat.exists_eq_succ_of_ne_zero hk
              clear hk
              have HN2 : Aside0 (m + 1 + k1 = fr.length) := ⟨by have := HN.out; omega⟩
              have d1 : decide ((m : Int) < (fi.length : Int)) = true := decide_eq_true (by have := HFI.out; omega)
              have d2 : decide (m < fi.length) = true := decide_eq_true (by have := HFI.out; omega)
              have hi : fr.getD m 0 < s.items.length := HRM.out _ (by rw [List.getD_eq_getElem?_getD, List.getElem?_eq_getElem c1]; exact List.getElem_mem _)
              have hzl := szS_len s rst (ps.take m)
              have htk := HPG.out m c1
              have hfg := HFG.out m
              have htn := totS_snoc s rst (ps.take m) (fr.getD m 0, shs.getD m 0)
              have hsn := szS_snoc s rst (ps.take m) (fr.getD m 0, shs.getD m 0)
              have hpd : pD s rst (fr.getD m 0, shs.getD m 0) = wrap64 (fitI (s.items.getD (fr.getD m 0) z66) (nS s.gr rst (s.items.getD (fr.getD m 0) z66).f0 (shs.getD m 0)) - nS s.gr rst (s.items.getD (fr.getD m 0) z66).f0 (shs.getD m 0)) := rfl
              have hpf : pF s rst (fr.getD m 0, shs.getD m 0) = fitI (s.items.getD (fr.getD m 0) z66) (nS s.gr rst (s.items.getD (fr.getD m 0) z66).f0 (shs.getD m 0)) := rfl
              rw [hpd, ← htk] at htn
              rw [hpf, ← htk] at hsn
              obtain ⟨sz, hsz⟩ : ∃ sz, sz = szS s rst (ps.take m) := ⟨_, rfl⟩
              rw [← hsz] at HF hzl hsn
              obtain ⟨tot, htt⟩ : ∃ t, t = totS s rst (ps.take m) := ⟨_, rfl⟩
              rw [← htt] at htn
              rw [← htt]
              have l1 := HF.out.l1
              have l1' : sz.length = s.items.length := l1
              obtain ⟨g1, p1, rfl, _, _, hg1, _⟩ := own_some HF.out.r1 (show 0 < sz.length by omega)
              have hr1 : Kd.R (Kd.int .i64) 3 wr w0.heap.size (fun k => k < b1) (.slice (some ⟨g1, 0, none⟩) sz.length p1) sz := HF.out.r1
              obtain ⟨ad6, eA6, f6⟩ := Kd.at_int (Kd.R_reads' HOP.out).2.2 (m : Int) (by omega) (by have := HFI.out; omega)
              obtain ⟨ad8, eA8, f8⟩ := Kd.at_int (Kd.R_reads' HSR.out).2.2 (m : Int) (by omega) (by have := HSL.out; omega)
              have f6' : wr.cell? (ad6.add m) = some (.int .i64 ((fr.getD m 0 : Nat) : Int)) := by
               unfold rd at f6
               rw [Int.toNat_natCast, hfg] at f6
               exact f6
              have f8' : wr.cell? (ad8.add m) = some (.int .i64 (shs.getD m 0)) := by
               unfold rd at f8
               rw [Int.toNat_natCast] at f8
               exact f8
              cases eA6
              cases eA8
              obtain ⟨sh, hsh⟩ : ∃ x, x = shs.getD m 0 := ⟨_, rfl⟩
              obtain ⟨i, hii⟩ : ∃ i, i = fr.getD m 0 := ⟨_, rfl⟩
              rw [← hsh] at f8' htn hsn hpd
              rw [← hii] at f6' hi htn hsn hpd
              obtain ⟨ad, eA, i0, i1, i2, i3, i4⟩ := HF.out.item i hi
              cases eA
              replace i0 : wr.cell? (ad.add (i * 5)) = some (.int .i64 (s.items.getD i z66).f0) := i0
              replace i1 : wr.cell? ⟨(ad.add (i * 5)).block, (ad.add (i * 5)).off + 1, none⟩ = some (.int .i64 (s.items.getD i z66).f1) := i1
              replace i2 : wr.cell? ⟨(ad.add (i * 5)).block, (ad.add (i * 5)).off + 2, none⟩ = some (.int .i64 (s.items.getD i z66).f2) := i2
              replace i3 : wr.cell? ⟨(ad.add (i * 5)).block, (ad.add (i * 5)).off + 3, none⟩ = some (.int .i64 (s.items.getD i z66).f3) := i3
              replace i4 : wr.cell? ⟨(ad.add (i * 5)).block, (ad.add (i * 5)).off + 4, none⟩ = some (.int .i64 (s.items.getD i z66).f4) := i4
              obtain ⟨it, hit⟩ : ∃ x, x = s.items.getD i z66 := ⟨_, rfl⟩
              rw [← hit] at i0 i1 i2 i3 i4 htn hsn hpd
              obtain ⟨gr, hgr⟩ : ∃ x, x = s.gr := ⟨_, rfl⟩
              rw [← hgr] at htn hsn hpd
              have t0 : wr.cell? ⟨g, 0, none⟩ = some (.slice (some ad) s.items.length c0) := bCe HF.out.blk 0
              have t1 : wr.cell? ⟨g, 1, none⟩ = some (.slice (some ⟨g1, 0, none⟩) sz.length p1) := bCe HF.out.blk 1
              have t4 : wr.cell? ⟨g, 4, none⟩ = some (.bool gr) := (bCe HF.out.blk 4).trans (by rw [hgr]; rfl)
              have ts : wr.cell? ⟨g1, i, none⟩ = some (.int .i64 (sz.getD i 0)) := (cell_at 0 hr1 i (by omega)).1
              obtain ⟨nn, hnn⟩ : ∃ n, n = nS gr rst it.f0 sh := ⟨_, rfl⟩
              rw [← hnn] at htn hsn hpd
              obtain ⟨ff, hff⟩ : ∃ n, n = fitI it nn := ⟨_, rfl⟩
              rw [← hff] at htn hsn hpd
              have HFF : Aside0 (spec_l16Fit.f 1 it.f0 it.f1 it.f2 it.f3 it.f4 nn = some ff) := ⟨by rw [hff]; exact fitS_eq it nn⟩
              have q0 : 0 ≤ (m : Int) := by omega
              have q1 : (m : Int) < (fi.length : Int) := by have := HFI.out; omega
              have q2 : (m : Int) < (shs.length : Int) := by have := HSL.out; omega
              have q3 : 0 ≤ (i : Int) := by omega
              have q4 : (i : Int) < (s.items.length : Int) := by omega
              have q5 : (i : Int) < (sz.length : Int) := by omega
              have HIS : i < sz.length := by omega
              have hw : Aside0 (wrap64 ((m : Int) + 1) = ((m + 1 : Nat) : Int)) := ⟨by have := HL.out; have := HRL.out; unfold wrap64; omega⟩
              have HDL : Aside0 ((((ps.take m).map (pD s rst)).length + 1) * 8 ≤ 140737488355328) := ⟨lim_map _ (n := m) (by rw [List.length_take]; omega) (Nat.le_trans HRL.out HL.out) c1⟩
              have HNN := aMk hnn
              have HTN := aMk htn
              have HSN := aMk hsn
              have HPD := aMk hpd
              have HTK := aMk htk
              have HG1 : Aside0 (g1 < b1) := ⟨hg1⟩
              have HII := aMk hii
              have HGW : Aside0 (g1 < w.heap.size) := ⟨Nat.lt_of_lt_of_le hg1 (Nat.le_trans HF.out.h2 HBB.out)⟩
              have HDM : Aside0 ((ps.take (m + 1)).map (pD s rst) = (ps.take m).map (pD s rst) ++ [wrap64 (ff - nn)]) := ⟨by rw [htk, List.map_append, ← hii, ← hsh]; exact congrArg _ (congrArg (fun x => [x]) hpd)⟩
              have HSH := aMk hsh
              clear c1 hi hzl htk hfg htn hsn hpd hpf hsz htt l1 l1' hr1 f6 f8 hsh hii hit hgr hnn hff hg1 HN
              go_upto_region 27 with (fail)
              go_cut [137] (fun v137 wd => v137 = .bool (gr && decide (rst > 0)) ∧ wd = wr)
              case first =>
               cases gr
               · go_wp2
                 go_meet
                 case rel => exact ⟨rfl, rfl⟩
               · by_cases hg : rst > 0
                 · have e1 : decide (rst > 0) = true := decide_eq_true hg
                   have e2 : decide (0 < rst) = true := decide_eq_true hg
                   go_wp2
                   go_meet
                   case rel => exact ⟨by rw [e1]; rfl, rfl⟩
                 · have e1 : decide (rst > 0) = false := decide_eq_false hg
                   have e2 : decide (0 < rst) = false := decide_eq_false hg
                   go_wp2
                   go_meet
                   case rel => exact ⟨by rw [e1]; rfl, rfl⟩
              case rest =>
               obtain ⟨rfl, rfl⟩ := hcut
               go_upto_if 137 with (fail)
               go_cut [14] (fun v14 wd => v14 = .int .i64 nn ∧ wd = wc)
               case first =>
                have hn := HNN.out
                unfold nS at hn
                cases hc : (gr && decide (rst > 0))
                · rw [hc, if_neg (by decide)] at hn
                  cases gr
                  · by_cases hg : rst < 0
                    · have e1 : decide (rst < 0) = true := decide_eq_true hg
                      rw [e1, if_pos (by rfl)] at hn
                      by_cases hl : wrap64 (it.f0 - sh) < 0
                      · have e3 : decide (wrap64 (it.f0 - sh) < 0) = true := decide_eq_true hl
                        rw [if_pos hl] at hn
                        have hn2 := aMk hn
                        clear hn hc hg hl
                        go_wp2
                        go_meet
                        case rel => exact ⟨by rw [hn2.out], rfl⟩
                      · have e3 : decide (wrap64 (it.f0 - sh) < 0) = false := decide_eq_false hl
                        rw [if_neg hl] at hn
                        have hn2 := aMk hn
                        clear hn hc hg hl
                        go_wp2
                        go_meet
                        case rel => exact ⟨by rw [hn2.out], rfl⟩
                    · have e1 : decide (rst < 0) = false := decide_eq_false hg
                      rw [e1, if_neg (show ¬ ((!false && false) = true) by decide)] at hn
                      have hn2 := aMk hn
                      clear hn hc hg
                      go_wp2
                      go_meet
                      case rel => exact ⟨by rw [hn2.out], rfl⟩
                  · rw [if_neg (show ¬ ((!true && decide (rst < 0)) = true) by simp)] at hn
                    have hn2 := aMk hn
                    clear hn hc
                    go_wp2
                    go_meet
                    case rel => exact ⟨by rw [hn2.out], rfl⟩
                · rw [hc, if_pos rfl] at hn
                  have hn2 := aMk hn
                  clear hn hc
                  go_wp2
                  go_meet
                  case rel => exact ⟨by rw [hn2.out], rfl⟩
               case rest =>
                obtain ⟨rfl, rfl⟩ := hcut
                go_upto_region 33 with (fail)
                refine start_ (n := 16) (S := fun w' => w'.cell? ⟨g, 0, none⟩ = some (.slice (some ad) s.items.length c0) ∧ w'.cell? ⟨g, 1, none⟩ = some (.slice (some ⟨g1, 0, none⟩) sz.length p1) ∧ w'.cell? (ad.add (i * 5)) = some (.int .i64 it.f0) ∧ w'.cell? ⟨(ad.add (i * 5)).block, (ad.add (i * 5)).off + 1, none⟩ = some (.int .i64 it.f1) ∧ w'.cell? ⟨(ad.add (i * 5)).block, (ad.add (i * 5)).off + 2, none⟩ = some (.int .i64 it.f2) ∧ w'.cell? ⟨(ad.add (i * 5)).block, (ad.add (i * 5)).off + 3, none⟩ = some (.int .i64 it.f3) ∧ w'.cell? ⟨(ad.add (i * 5)).block, (ad.add (i * 5)).off + 4, none⟩ = some (.int .i64 it.f4)) (ds := [15]) #[false, false, false, false, false, false, false, false, false, false, false, false, false, false, false, false] (by kernel_rfl) rfl rfl ⟨t0, t1, i0, i1, i2, i3, i4⟩ (fun hHeld => ?_)
                refine pure_ (i := 0) (N := some 161) (v := ?_) (a' := ?_) #[true, false, false, false, false, false, false, false, false, false, false, false, false, false, false, false] rfl rfl (by kernel_rfl) (fun _ _ _ h => h) (Or.inl ⟨by rfl, ?_⟩) ?_ ?_
                rotate_left
                · intro w'
                  go_simp
                  with_reducible rfl
                rotate_left
                · simp only [Act.put, lSa, lSz, lSs, i64_w, i32_w]
                  rfl
                refine pure_ (i := 1) (N := some 162) (v := ?_) (a' := ?_) #[true, true, false, false, false, false, false, false, false, false, false, false, false, false, false, false] rfl rfl (by kernel_rfl) (fun _ _ _ h => h) (Or.inl ⟨by rfl, ?_⟩) ?_ ?_
                rotate_left
                · intro w'
                  go_simp
                  with_reducible rfl
                rotate_left
                · simp only [Act.put, lSa, lSz, lSs, i64_w, i32_w]
                  rfl
                refine pure_ (i := 2) (N := some 163) (v := ?_) (a' := ?_) #[true, true, true, false, false, false, false, false, false, false, false, false, false, false, false, false] rfl rfl (by kernel_rfl) (fun _ _ _ h => h) (Or.inl ⟨by rfl, ?_⟩) ?_ ?_
                rotate_left
                · intro w'
                  go_simp
                  with_reducible rfl
                rotate_left
                · simp only [Act.put, lSa, lSz, lSs, i64_w, i32_w]
                  rfl
                refine pure_ (i := 4) (N := some 165) (v := ?_) (a' := ?_) #[true, true, true, false, true, false, false, false, false, false, false, false, false, false, false, false] rfl rfl (by kernel_rfl) (fun _ _ _ h => h) (Or.inl ⟨by rfl, ?_⟩) ?_ ?_
                rotate_left
                · intro w'
                  go_simp
                  with_reducible rfl
                rotate_left
                · simp only [Act.put, lSa, lSz, lSs, i64_w, i32_w]
                  rfl
                refine pure_ (i := 5) (N := some 166) (v := ?_) (a' := ?_) #[true, true, true, false, true, true, false, false, false, false, false, false, false, false, false, false] rfl rfl (by kernel_rfl) (fun _ _ _ h => h) (Or.inl ⟨by rfl, ?_⟩) ?_ ?_
                rotate_left
                · intro w'
                  go_simp
                  with_reducible rfl
                rotate_left
                · simp only [Act.put, lSa, lSz, lSs, i64_w, i32_w]
                  rfl
                refine pure_ (i := 6) (N := some 167) (v := ?_) (a' := ?_) #[true, true, true, false, true, true, true, false, false, false, false, false, false, false, false, false] rfl rfl (by kernel_rfl) (fun _ _ _ h => h) (Or.inl ⟨by rfl, ?_⟩) ?_ ?_
                rotate_left
                · intro w'
                  go_simp
                  with_reducible rfl
                rotate_left
                · simp only [Act.put, lSa, lSz, lSs, i64_w, i32_w]
                  rfl
                refine pure_ (i := 7) (N := some 168) (v := ?_) (a' := ?_) #[true, true, true, false, true, true, true, true, false, false, false, false, false, false, false, false] rfl rfl (by kernel_rfl) (fun _ _ _ h => h) (Or.inl ⟨by rfl, ?_⟩) ?_ ?_
                rotate_left
                · intro w'
                  go_simp
                  with_reducible rfl
                rotate_left
                · simp only [Act.put, lSa, lSz, lSs, i64_w, i32_w]
                  rfl
                refine pure_ (i := 9) (N := some 170) (v := ?_) (a' := ?_) #[true, true, true, false, true, true, true, true, false, true, false, false, false, false, false, false] rfl rfl (by kernel_rfl) (fun _ _ _ h => h) (Or.inl ⟨by rfl, ?_⟩) ?_ ?_
                rotate_left
                · intro w'
                  go_simp
                  with_reducible rfl
                rotate_left
                · simp only [Act.put, lSa, lSz, lSs, i64_w, i32_w]
                  rfl
                refine pure_ (i := 12) (N := some 173) (v := ?_) (a' := ?_) #[true, true, true, false, true, true, true, true, false, true, false, false, true, false, false, false] rfl rfl (by kernel_rfl) (fun _ _ _ h => h) (Or.inl ⟨by rfl, ?_⟩) ?_ ?_
                rotate_left
                · intro w'
                  go_simp
                  with_reducible rfl
                rotate_left
                · simp only [Act.put, lSa, lSz, lSs, i64_w, i32_w]
                  rfl
                refine take_ (i := 3) (N := some 164) (v := ?_) (a' := ?_) #[true, true, true, true, true, true, true, true, false, true, false, false, true, false, false, false] rfl rfl (by kernel_rfl) (fun _ _ _ h => h) (Or.inl ⟨by rfl, ?_⟩) hHeld ?_ ?_
                rotate_left
                · rintro w' ⟨s0, s1, s2, s3, s4, s5, s6⟩
                  go_simp
                  with_reducible rfl
                rotate_left
                · simp only [Act.put, lSa, lSz, lSs, i64_w, i32_w]
                  rfl
                refine take_ (i := 8) (N := some 169) (v := ?_) (a' := ?_) #[true, true, true, true, true, true, true, true, true, true, false, false, true, false, false, false] rfl rfl (by kernel_rfl) (fun _ _ _ h => h) (Or.inl ⟨by rfl, ?_⟩) hHeld ?_ ?_
                rotate_left
                · rintro w' ⟨s0, s1, s2, s3, s4, s5, s6⟩
                  go_simp
                  with_reducible rfl
                rotate_left
                · simp only [Act.put, lSa, lSz, lSs, i64_w, i32_w]
                  rfl
                refine pure_ (i := 10) (N := some 171) (v := ?_) (a' := ?_) #[true, true, true, true, true, true, true, true, true, true, true, false, true, false, false, false] rfl rfl (by kernel_rfl) (fun _ _ _ h => h) (Or.inl ⟨by rfl, ?_⟩) ?_ ?_
                rotate_left
                · intro w'
                  go_simp
                  with_reducible rfl
                rotate_left
                · simp only [Act.put, lSa, lSz, lSs, i64_w, i32_w]
                  rfl
                refine take_ (i := 11) (N := some 172) (v := ?_) (a' := ?_) #[true, true, true, true, true, true, true, true, true, true, true, true, true, false, false, false] rfl rfl (by kernel_rfl) (fun _ _ _ h => h) (Or.inl ⟨by rfl, ?_⟩) hHeld ?_ ?_
                rotate_left
                · rintro w' ⟨s0, s1, s2, s3, s4, s5, s6⟩
                  go_simp
                  with_reducible rfl
                rotate_left
                · simp only [Act.put, lSa, lSz, lSs, i64_w, i32_w]
                  rfl
                refine one_ (i := 13) (N := some 174) #[true, true, true, true, true, true, true, true, true, true, true, true, true, true, false, false] rfl rfl (by kernel_rfl) (by decide) (fun K hK => ?_)
                refine goes_ Try.func117 (by kernel_rfl) rfl #[.agg #[.int .i64 it.f0, .int .i64 it.f1, .int .i64 it.f2, .int .i64 it.f3, .int .i64 it.f4], .int .i64 nn] (by rfl) rfl rfl (by simp only [List.map_toArray, List.map_cons, List.map_nil]; rfl) ?_
                with_reducible refine (spec_l16Fit.calls 1 it.f0 it.f1 it.f2 it.f3 it.f4 nn ff _ HFF.out).mono ?_
                rintro e w7 ⟨rfl, hd7⟩
                refine ⟨_, rfl, ?_⟩
                have HB7 := aMk (below_then (below_drew (Below.refl wc.heap.size wc)) (Nat.le_refl _) hd7)
                clear hd7
                refine hK.out _ _ ⟨(pw_cell_below HB7.out t0), (pw_cell_below HB7.out t1), (pw_cell_below HB7.out i0), (pw_cell_below HB7.out i1), (pw_cell_below HB7.out i2), (pw_cell_below HB7.out i3), (pw_cell_below HB7.out i4)⟩ (fun hHeld => ?_)
                clear hK K
                refine norm_ (a' := ?_) ?_ ?_
                rotate_left
                · show Act.put _ (some 174) _ = _
                  simp only [Act.put, lSa, lSz, lSs, i64_w, i32_w]
                  rfl
                refine pure_ (i := 14) (N := some 175) (v := ?_) (a' := ?_) #[true, true, true, true, true, true, true, true, true, true, true, true, true, true, true, false] rfl rfl (by kernel_rfl) (fun _ _ _ h => h) (Or.inl ⟨by rfl, ?_⟩) ?_ ?_
                rotate_left
                · intro w'
                  go_simp
                  with_reducible rfl
                rotate_left
                · simp only [Act.put, lSa, lSz, lSs, i64_w, i32_w]
                  rfl
                refine last_ (i := 15) (N := none) #[true, true, true, true, true, true, true, true, true, true, true, true, true, true, true, true] rfl rfl (by kernel_rfl) (by decide) (fun K hK => ?_)
                have hsc := pw_cell_below HB7.out ts
                have hsf : w7.frozen? ⟨g1, i, none⟩ = false := (cell_at 0 (HF.out.below HB7.out).r1 i HIS).2
                refine skip_ (w1 := ?_) (by rfl) rfl ?_ ?_
                rotate_left
                · go_simp
                  rfl
                refine hK.out _ _ ?_
                clear hK K
                refine done_ (by kernel_rfl) ?_
                have hf7 : FS w0 w7 g b1 B (some ad) c0 (.slice (some ⟨g1, 0, none⟩) (s.with1 sz).size.length p1) ub uc (s.with1 sz) := HF.out.below HB7.out
                obtain ⟨hfz, hgz, _⟩ := hf7.put1 i ff
                have HFZ : Aside0 (FS w0 (w7.setCell ⟨g1, i, none⟩ (.int .i64 ff)) g b1 B (some ad) c0 (.slice (some ⟨g1, 0, none⟩) sz.length p1) ub uc (s.with1 (sz.set i ff))) := ⟨hfz⟩
                have HCHZ := aMk (R_away (Kd.R_below HCH.out HB7.out) hgz (fun k _ hb => by intro e; injection e with e; exact absurd hb (Nat.not_le.2 (e ▸ Nat.lt_of_lt_of_le HGW.out HSZ.out.1))))
                have HOPZ := aMk (R_away (Kd.R_below HOP.out HB7.out) hgz (fun k _ hb => by intro e; injection e with e; exact absurd hb (Nat.not_le.2 (e ▸ HGW.out))))
                have HSRZ := aMk (R_away (Kd.R_below HSR.out HB7.out) hgz (fun k _ hb => by intro e; injection e with e; exact absurd hb (Nat.not_le.2 (e ▸ HGW.out))))
                have HZZ : Aside0 (bb ≤ (w7.setCell ⟨g1, i, none⟩ (.int .i64 ff)).heap.size) := ⟨by rw [World.size_setCell]; exact Nat.le_trans HSZ.out.2 HB7.out.size⟩
                clear hf7 hfz hgz t0 t1 ts i0 i1 i2 i3 i4
                generalize (w7.setCell ⟨g1, i, none⟩ (.int .i64 ff)) = wz at HFZ HCHZ HOPZ HSRZ HZZ ⊢
                have t1 : wz.cell? ⟨g, 1, none⟩ = some (.slice (some ⟨g1, 0, none⟩) sz.length p1) := bCe HFZ.out.blk 1
                have ts : wz.cell? ⟨g1, i, none⟩ = some (.int .i64 ff) := set_cell HFZ.out.r1 HIS
                go_wp2_with (first | ((with_reducible refine gate_builtin (b := .append) (xs := #[.tmp 176, .tmp 186]) rfl ?_); at_builtin; refine Kd.R_append (Kd.int .i64) (w0 := wz) bb rfl (.tmp 176) (.tmp 186) 22 3 (.int .i64 0) 8 rfl Try.underlying22 info3 rfl (by decide) (by omega) _ ((ps.take m).map (pD s rst)) (wrap64 (ff - nn)) [.int .i64 (wrap64 (ff - nn))] (fun _ => True) (fun _ => False) rfl ?q1 rfl (fun _ hk => hk.elim) (fun _ _ => trivial) ?q2 ?q3 ?q4 ?hl ?_; (case q1 => first | (go_simp; done) | (go_simp; rfl)); (case q2 => exact HCHZ.out); (case q3 => exact (Below.refl _ _)); (case q4 => exact HZZ.out); (case hl => exact HDL.out); intro v8 w8 ho hb hg hat; have HCH8 := aMk ho; have HF8 := aMk (HFZ.out.away hg (own_ge HCHZ.out (Nat.le_trans HBB.out HSZ.out.1))); have HOP8 := aMk (R_away HOPZ.out hg (fun k hk _ e => absurd (own_ge HCHZ.out (Nat.le_refl _) k e.symm) (Nat.not_le.2 hk))); have HSR8 := aMk (R_away HSRZ.out hg (fun k hk _ e => absurd (own_ge HCHZ.out (Nat.le_refl _) k e.symm) (Nat.not_le.2 hk))); have HZ8 := aMk (And.intro HSZ.out.1 (Nat.le_trans HZZ.out hb.size)); have s1 : w8.cell? ⟨g, 1, none⟩ = some (.slice (some ⟨g1, 0, none⟩) sz.length p1) := bCe HF8.out.blk 1; have ss : w8.cell? ⟨g1, i, none⟩ = some (.int .i64 ff) := set_cell HF8.out.r1 HIS; clear ho hb hg hat))
                go_roundg k1
                case measure => omega
                case rel => exact ⟨m + 1, by first | rw [hw.out] | rfl | go_num, by rw [HTN.out], HN2, ⟨by rw [HDM.out]; exact HCH8.out⟩, ⟨by rw [HSN.out]; exact HF8.out⟩, HOP8, HSR8, HZ8⟩
            · have d1 : decide ((m : Int) < (fi.length : Int)) = false := decide_eq_false (by have := HFI.out; omega)
              have d2 : decide (m < fi.length) = false := decide_eq_false (by have := HFI.out; omega)
              obtain rfl : m = fr.length := by have := HN.out; omega
              rw [show ps.take fr.length = ps from List.take_of_length_le (by rw [HPL.out]; exact Nat.le_refl _)] at HCH HF ⊢
              obtain ⟨tot, htt⟩ : ∃ t, t = totS s rst ps := ⟨_, rfl⟩
              obtain ⟨sz, hsz⟩ : ∃ z, z = szS s rst ps := ⟨_, rfl⟩
              rw [← htt, ← hsz] at HS'
              rw [← hsz] at HF
              rw [← htt]
              have hsl := szS_len s rst ps
              rw [← hsz] at hsl
              have HSZL := aMk hsl
              obtain ⟨ds, hds⟩ : ∃ ds, ds = ps.map (pD s rst) := ⟨_, rfl⟩
              rw [← hds] at HCH
              have HDL : Aside0 (ds.length = fr.length) := ⟨by rw [hds, List.length_map, HPL.out]⟩
              have HDG : Aside0 (∀ m, m < fr.length → ds.getD m 0 = pD s rst (fr.getD m 0, shs.getD m 0)) := ⟨fun m hm => by
               have h1 := HPG.out m hm
               have h2 : ps[m]? = some (fr.getD m 0, shs.getD m 0) := by
                have e := congrArg (fun l => l[m]?) h1
                rw [List.getElem?_take, if_pos (by omega), List.getElem?_append_right (by rw [List.length_take]; omega), List.length_take, HPL.out, show m - min m fr.length = 0 by omega] at e
                exact e
               rw [hds, List.getD_eq_getElem?_getD, List.getElem?_map, h2]
               rfl⟩
              obtain ⟨Ac, cc, rfl, hcc, hrc⟩ := Kd.R_reads HCH.out
              have HF0 : Aside0 (FS w0 wr g b1 B A0 c0 ua ub uc ⟨s.items, sz, fxS s rst tot (ps.take 0), s.factor, s.gr, s.room, s.first⟩) := ⟨HF.out⟩
              have HWS : Aside0 (w.heap.size ≤ wr.heap.size) := ⟨Nat.le_trans HSZ.out.1 HSZ.out.2⟩
              have HWB : Aside0 (w.heap.size ≤ bb) := ⟨HSZ.out.1⟩
              clear htt hsz hsl hds hcc hrc HF HSR HN c1 HSZ
              go_wp2
              go_loopg [15] fr.length (fun kq v15 w' => ∃ m : Nat, v15 = .int .i64 (m : Int) ∧ Aside0 (m + kq = fr.length) ∧ Aside0 (FS w0 w' g b1 B A0 c0 ua ub uc ⟨s.items, sz, fxS s rst tot (ps.take m), s.factor, s.gr, s.room, s.first⟩) ∧ Aside0 (Kd.R (Kd.int .i64) 3 w' bb (fun _ => True) (.slice Ac ds.length cc) ds) ∧ Aside0 (Kd.R (Kd.int .i64) 3 w' w.heap.size (fun k => k < bb) (.slice A6 fi.length c6) fi) ∧ Aside0 (w.heap.size ≤ w'.heap.size))
              case atStart => exact ⟨0, rfl, ⟨by simp⟩, HF0, HCH, HOP, HWS⟩
              case round =>
               clear HF0 HCH HOP HWS
               obtain ⟨m, rfl, HN, HF, HCH, HOP, HWS⟩ := hrel
               by_cases c1 : m < fr.length
               · as_aux_lemma =>
                 have hk : gk ≠ 0 := by have := HN.out; omega
                 obtain ⟨k1, rfl⟩ := Nat.exists_eq_succ_of_ne_zero hk
                 clear hk
                 have HN2 : Aside0 (m + 1 + k1 = fr.length) := ⟨by have := HN.out; omega⟩
                 have d1 : decide ((m : Int) < (fi.length : Int)) = true := decide_eq_true (by have := HFI.out; omega)
                 have d2 : decide (m < fi.length) = true := decide_eq_true (by have := HFI.out; omega)
                 have hi : fr.getD m 0 < s.items.length := HRM.out _ (by rw [List.getD_eq_getElem?_getD, List.getElem?_eq_getElem c1]; exact List.getElem_mem _)
                 have htk := HPG.out m c1
                 have hdg := HDG.out m c1
                 have hfg := HFG.out m
                 have hfl := fxS_len s rst tot (ps.take m)
                 have hfn := fxS_snoc s rst tot (ps.take m) (fr.getD m 0, shs.getD m 0)
                 rw [← htk, ← hdg] at hfn
                 have l2 : (fxS s rst tot (ps.take m)).length = s.items.length := HF.out.l2
                 obtain ⟨fx, hfx⟩ : ∃ z, z = fxS s rst tot (ps.take m) := ⟨_, rfl⟩
                 rw [← hfx] at hfn hfl HF l2
                 obtain ⟨g2, p2, rfl, _, _, _, _⟩ := own_some HF.out.r2 (show 0 < fx.length by omega)
                 have HIS : fr.getD m 0 < fx.length := by omega
                 obtain ⟨ad6, eA6, f6⟩ := Kd.at_int (Kd.R_reads' HOP.out).2.2 (m : Int) (by omega) (by have := HFI.out; omega)
                 obtain ⟨adc, eAc, fc⟩ := Kd.at_int (Kd.R_reads' HCH.out).2.2 (m : Int) (by omega) (by have := HDL.out; omega)
                 have zf : wr.cell? (ad6.add m) = some (.int .i64 ((fr.getD m 0 : Nat) : Int)) := by
                  unfold rd at f6
                  rw [Int.toNat_natCast, hfg] at f6
                  exact f6
                 have zc : wr.cell? (adc.add m) = some (.int .i64 (ds.getD m 0)) := by
                  unfold rd at fc
                  rw [Int.toNat_natCast] at fc
                  exact fc
                 cases eA6
                 cases eAc
                 obtain ⟨d, hd⟩ : ∃ x, x = ds.getD m 0 := ⟨_, rfl⟩
                 obtain ⟨i, hii⟩ : ∃ i, i = fr.getD m 0 := ⟨_, rfl⟩
                 rw [← hd] at zc hfn
                 rw [← hii] at zf hi hfn HIS
                 have t2 : wr.cell? ⟨g, 2, none⟩ = some (.slice (some ⟨g2, 0, none⟩) fx.length p2) := bCe HF.out.blk 2
                 obtain ⟨bo, tx⟩ : ∃ bo, wr.cell? ⟨g2, i, none⟩ = some (.bool bo) := ⟨_, (cell_at false HF.out.r2 i HIS).1⟩
                 have q0 : 0 ≤ (m : Int) := by omega
                 have q1 : (m : Int) < (fi.length : Int) := by have := HFI.out; omega
                 have q2 : (m : Int) < (ds.length : Int) := by have := HDL.out; omega
                 have q3 : 0 ≤ (i : Int) := by omega
                 have q5 : (i : Int) < (fx.length : Int) := by omega
                 have hw : Aside0 (wrap64 ((m : Int) + 1) = ((m + 1 : Nat) : Int)) := ⟨by have := HL.out; have := HRL.out; unfold wrap64; omega⟩
                 have HFN := aMk hfn
                 clear c1 hi htk hdg hfg hfl hfn l2 hfx f6 fc hd hii HN
                 go_upto_region 39 with (fail)
                 go_cut [228] (fun v228 wd => v228 = .bool (hitS tot d) ∧ wd = wr)
                 case first =>
                  by_cases t0 : tot = 0
                  · have e0 : (tot == 0) = true := beq_iff_eq.2 t0
                    have e9 : decide (tot = 0) = true := decide_eq_true t0
                    clear t0
                    go_wp2
                    go_meet
                    case rel => exact ⟨by unfold hitS; rw [e9]; try rfl, rfl⟩
                  · have e0 : (tot == 0) = false := beq_eq_false_iff_ne.2 t0
                    have e9 : decide (tot = 0) = false := decide_eq_false t0
                    by_cases t1 : tot > 0
                    · have e1 : decide (tot > 0) = true := decide_eq_true t1
                      have e2 : decide (0 < tot) = true := decide_eq_true t1
                      have e3 : decide (tot < 0) = false := decide_eq_false (by omega)
                      clear t0 t1
                      by_cases t3 : d > 0
                      · have e4 : decide (d > 0) = true := decide_eq_true t3
                        have e5 : decide (0 < d) = true := decide_eq_true t3
                        clear t3
                        go_wp2
                        go_meet
                        case rel => exact ⟨by unfold hitS; rw [e9, e1, e4, e3]; try rfl, rfl⟩
                      · have e4 : decide (d > 0) = false := decide_eq_false t3
                        have e5 : decide (0 < d) = false := decide_eq_false t3
                        clear t3
                        go_wp2
                        go_meet
                        case rel => exact ⟨by unfold hitS; rw [e9, e1, e4, e3]; try rfl, rfl⟩
                    · have e1 : decide (tot > 0) = false := decide_eq_false t1
                      have e2 : decide (0 < tot) = false := decide_eq_false t1
                      have e3 : decide (tot < 0) = true := decide_eq_true (by omega)
                      clear t0 t1
                      by_cases t3 : d < 0
                      · have e4 : decide (d < 0) = true := decide_eq_true t3
                        clear t3
                        go_wp2
                        go_meet
                        case rel => exact ⟨by unfold hitS; rw [e9, e1, e3, e4]; try rfl, rfl⟩
                      · have e4 : decide (d < 0) = false := decide_eq_false t3
                        clear t3
                        go_wp2
                        go_meet
                        case rel => exact ⟨by unfold hitS; rw [e9, e1, e3, e4]; try rfl, rfl⟩
                 case rest =>
                  obtain ⟨rfl, rfl⟩ := hcut
                  cases hh : hitS tot d
                  · have hfn := HFN.out
                    rw [hh, if_neg (by decide)] at hfn
                    have HFM := aMk hfn
                    clear hh hfn
                    go_wp2
                    go_roundg k1
                    case measure => omega
                    case rel => exact ⟨m + 1, by first | rw [hw.out] | rfl | go_num, HN2, ⟨by rw [HFM.out]; exact HF.out⟩, HCH, HOP, HWS⟩
                  · have hfn := HFN.out
                    rw [hh, if_pos rfl] at hfn
                    have HFM := aMk hfn
                    clear hh hfn
                    go_upto_region 40 with (fail)
                    refine start_ (n := 10) (S := fun w' => w'.cell? ⟨g, 2, none⟩ = some (.slice (some ⟨g2, 0, none⟩) fx.length p2) ∧ w'.cell? (ad6.add m) = some (.int .i64 (i : Int))) (ds := [9]) #[false, false, false, false, false, false, false, false, false, false] (by kernel_rfl) rfl rfl ⟨t2, zf⟩ (fun hHeld => ?_)
                    refine pure_ (i := 0) (N := some 229) (v := ?_) (a' := ?_) #[true, false, false, false, false, false, false, false, false, false] rfl rfl (by kernel_rfl) (fun _ _ _ h => h) (Or.inl ⟨by rfl, ?_⟩) ?_ ?_
                    rotate_left
                    · intro w'
                      go_simp
                      with_reducible rfl
                    rotate_left
                    · simp only [Act.put, lSa, lSz, lSs, i64_w, i32_w]
                      rfl
                    refine pure_ (i := 1) (N := some 230) (v := ?_) (a' := ?_) #[true, true, false, false, false, false, false, false, false, false] rfl rfl (by kernel_rfl) (fun _ _ _ h => h) (Or.inl ⟨by rfl, ?_⟩) ?_ ?_
                    rotate_left
                    · intro w'
                      go_simp
                      with_reducible rfl
                    rotate_left
                    · simp only [Act.put, lSa, lSz, lSs, i64_w, i32_w]
                      rfl
                    refine pure_ (i := 2) (N := some 231) (v := ?_) (a' := ?_) #[true, true, true, false, false, false, false, false, false, false] rfl rfl (by kernel_rfl) (fun _ _ _ h => h) (Or.inl ⟨by rfl, ?_⟩) ?_ ?_
                    rotate_left
                    · intro w'
                      go_simp
                      with_reducible rfl
                    rotate_left
                    · simp only [Act.put, lSa, lSz, lSs, i64_w, i32_w]
                      rfl
                    refine pure_ (i := 4) (N := some 233) (v := ?_) (a' := ?_) #[true, true, true, false, true, false, false, false, false, false] rfl rfl (by kernel_rfl) (fun _ _ _ h => h) (Or.inl ⟨by rfl, ?_⟩) ?_ ?_
                    rotate_left
                    · intro w'
                      go_simp
                      with_reducible rfl
                    rotate_left
                    · simp only [Act.put, lSa, lSz, lSs, i64_w, i32_w]
                      rfl
                    refine pure_ (i := 5) (N := some 234) (v := ?_) (a' := ?_) #[true, true, true, false, true, true, false, false, false, false] rfl rfl (by kernel_rfl) (fun _ _ _ h => h) (Or.inl ⟨by rfl, ?_⟩) ?_ ?_
                    rotate_left
                    · intro w'
                      go_simp
                      with_reducible rfl
                    rotate_left
                    · simp only [Act.put, lSa, lSz, lSs, i64_w, i32_w]
                      rfl
                    refine pure_ (i := 6) (N := some 235) (v := ?_) (a' := ?_) #[true, true, true, false, true, true, true, false, false, false] rfl rfl (by kernel_rfl) (fun _ _ _ h => h) (Or.inl ⟨by rfl, ?_⟩) ?_ ?_
                    rotate_left
                    · intro w'
                      go_simp
                      with_reducible rfl
                    rotate_left
                    · simp only [Act.put, lSa, lSz, lSs, i64_w, i32_w]
                      rfl
                    refine take_ (i := 3) (N := some 232) (v := ?_) (a' := ?_) #[true, true, true, true, true, true, true, false, false, false] rfl rfl (by kernel_rfl) (fun _ _ _ h => h) (Or.inl ⟨by rfl, ?_⟩) hHeld ?_ ?_
                    rotate_left
                    · rintro w' ⟨s0, s1⟩
                      go_simp
                      with_reducible rfl
                    rotate_left
                    · simp only [Act.put, lSa, lSz, lSs, i64_w, i32_w]
                      rfl
                    refine take_ (i := 7) (N := some 236) (v := ?_) (a' := ?_) #[true, true, true, true, true, true, true, true, false, false] rfl rfl (by kernel_rfl) (fun _ _ _ h => h) (Or.inl ⟨by rfl, ?_⟩) hHeld ?_ ?_
                    rotate_left
                    · rintro w' ⟨s0, s1⟩
                      go_simp
                      with_reducible rfl
                    rotate_left
                    · simp only [Act.put, lSa, lSz, lSs, i64_w, i32_w]
                      rfl
                    refine pure_ (i := 8) (N := some 237) (v := ?_) (a' := ?_) #[true, true, true, true, true, true, true, true, true, false] rfl rfl (by kernel_rfl) (fun _ _ _ h => h) (Or.inl ⟨by rfl, ?_⟩) ?_ ?_
                    rotate_left
                    · intro w'
                      go_simp
                      with_reducible rfl
                    rotate_left
                    · simp only [Act.put, lSa, lSz, lSs, i64_w, i32_w]
                      rfl
                    refine last_ (i := 9) (N := none) #[true, true, true, true, true, true, true, true, true, true] rfl rfl (by kernel_rfl) (by decide) (fun K hK => ?_)
                    have hsc : (wc.drew).cell? ⟨g2, i, none⟩ = some (.bool bo) := tx
                    have hsf : (wc.drew).frozen? ⟨g2, i, none⟩ = false := (cell_at false HF.out.r2 i HIS).2
                    refine skip_ (w1 := ?_) (by rfl) rfl ?_ ?_
                    rotate_left
                    · go_simp
                      rfl
                    refine hK.out _ _ ?_
                    clear hK K
                    refine done_ (by kernel_rfl) ?_
                    have hf7 : FS w0 wc g b1 B A0 c0 ua (.slice (some ⟨g2, 0, none⟩) (Sx.mk s.items sz fx s.factor s.gr s.room s.first).fixed.length p2) uc ⟨s.items, sz, fx, s.factor, s.gr, s.room, s.first⟩ := HF.out
                    obtain ⟨hfz, hgz, hlz⟩ := hf7.put2 i true
                    have hbd := below_drew (Below.refl (wc.setCell ⟨g2, i, none⟩ (.bool true)).heap.size (wc.setCell ⟨g2, i, none⟩ (.bool true)))
                    have HFZ : Aside0 (FS w0 (wc.setCell ⟨g2, i, none⟩ (.bool true)).drew g b1 B A0 c0 ua (.slice (some ⟨g2, 0, none⟩) fx.length p2) uc ⟨s.items, sz, fx.set i true, s.factor, s.gr, s.room, s.first⟩) := ⟨hfz.below hbd⟩
                    have hgw : g2 < w.heap.size := Nat.lt_of_lt_of_le hlz HBB.out
                    have HCHZ := aMk (Kd.R_below (R_away HCH.out hgz (fun k _ hb => by intro e; injection e with e; exact absurd hb (Nat.not_le.2 (e ▸ Nat.lt_of_lt_of_le hgw HWB.out)))) hbd)
                    have HOPZ := aMk (Kd.R_below (R_away HOP.out hgz (fun k _ hb => by intro e; injection e with e; exact absurd hb (Nat.not_le.2 (e ▸ hgw)))) hbd)
                    have HWZ : Aside0 (w.heap.size ≤ (wc.setCell ⟨g2, i, none⟩ (.bool true)).drew.heap.size) := ⟨Nat.le_trans HWS.out (Nat.le_trans hgz.size hbd.size)⟩
                    clear hf7 hfz hgz hlz hgw t2 tx zf zc hbd
                    generalize (wc.setCell ⟨g2, i, none⟩ (.bool true)).drew = wz at HFZ HCHZ HOPZ HWZ ⊢
                    go_wp2
                    go_roundg k1
                    case measure => omega
                    case rel => exact ⟨m + 1, by first | rw [hw.out] | rfl | go_num, HN2, ⟨by rw [HFM.out]; exact HFZ.out⟩, HCHZ, HOPZ, HWZ⟩
               · have d1 : decide ((m : Int) < (fi.length : Int)) = false := decide_eq_false (by have := HFI.out; omega)
                 have d2 : decide (m < fi.length) = false := decide_eq_false (by have := HFI.out; omega)
                 obtain rfl : m = fr.length := by have := HN.out; omega
                 rw [show ps.take fr.length = ps from List.take_of_length_le (by rw [HPL.out]; exact Nat.le_refl _)] at HF
                 clear c1 HN
                 go_wp2
                 go_ret
                 exact ⟨by rw [← HFR.out, decide_eq_false HZ.out]; rfl, by rw [← HS'.out]; exact HF.out, HWS.out⟩
       · rw [if_neg hsl] at h2; cases h2
theorem infoF4 : (Try.prog.info? 4).map (fun i => (i.zero, i.size, i.bytes)) = some (some (.bool false), 1, 1) := by kernel_rfl
def flexSO (k : Nat) : Nat → Sx → Option (List Int)
 | 0, _ => none
 | n + 1, s => if mOkS k s = true then (if frN s.fixed s.items.length = [] then some s.size else match roundSO k s with
  | none => none
  | some s' => flexSO k n s') else none
def begS (items : List S66) (room : Int) : Sx := ⟨items, (begL items room).map (·.t), (begL items room).map (·.fx), (begL items room).map (·.f), decide (sumT (items.map beg1) 0 < room), room, 0⟩
def begSS (items : List S66) (room : Int) : Sx := ⟨items, (begL items room).map (·.t), (begL items room).map (·.fx), (begL items room).map (·.f), decide (sumT (items.map beg1) 0 < room), room, leftN (begS items room) items.length⟩
def spec_l16Flex.f (k : Nat) (l0 : List S66) (a1 : Int) : Option (List Int) := if l0.length ≤ 100000 then flexSO k k (begSS l0 a1) else none
theorem sumT_snoc (xs : List Fx) (x : Fx) : sumT (xs ++ [x]) 0 = wrap64 (sumT xs 0 + x.t) := by unfold sumT; rw [List.foldl_append]; rfl
theorem FS.set6 {w0 W : World} {g b1 B : Nat} {A0 : Option Addr} {c0 : Nat} {v1 v2 v3 : Value} {s : Sx} (h : FS w0 W g b1 B A0 c0 v1 v2 v3 s) (x : Int) : FS w0 (W.setCell ⟨g, 6, none⟩ (.int .i64 x)) g b1 B A0 c0 v1 v2 v3 ⟨s.items, s.size, s.fixed, s.factor, s.gr, s.room, x⟩ :=
 ⟨blk_set h.blk 6 _, h.ge, h.lt, h.it, Kd.R_set h.r1 h.blk (by decide) 6 _, Kd.R_set h.r2 h.blk (by decide) 6 _, Kd.R_set h.r3 h.blk (by decide) 6 _, bSe h.b h.ge, h.h1, h.h2, h.l1, h.l2, h.l3⟩
def factS (v : Int) : Int := if v < 0 then 0 else if v > 1000000 then 1000000 else v
theorem factS_eq (v : Int) : factS v = clampI v := by
 unfold factS clampI mx mn
 split <;> split <;> split <;> first | rfl | omega | skip
 all_goals omega
theorem factS_calls (v : Int) (W : World) : Calls Try.prog 118 #[.int .i64 v] W fun e w' => e = .returned (.int .i64 (clampI v)) ∧ Drawn0 W w' := spec_l16Factor.calls v _ W (by rw [← factS_eq]; unfold spec_l16Factor.f factS; split <;> (try split) <;> rfl)
theorem fixS_eq (gr : Bool) (x : Fx) : ((if gr = true then decide (x.i.f0 > x.t) else decide (x.i.f0 < x.t)) || decide (clampI (if gr = true then x.i.f1 else x.i.f2) = 0)) = (beg2 gr x).fx := by
 unfold beg2
 cases gr
 · simp only [Bool.false_and, Bool.not_false, Bool.true_and, Bool.or_false, if_neg (show ¬ (false = true) by decide)]
   exact Bool.or_comm _ _
 · simp only [Bool.true_and, Bool.not_true, Bool.false_and, Bool.or_false, if_true]
   exact Bool.or_comm _ _
set_option maxHeartbeats 8000000 in
set_option maxRecDepth 100000 in
theorem spec_l16Flex.calls (k : Nat) (A0 : Option Addr) (c0 : Nat) (l0 : List S66) (a1 : Int) (r : List Int) (w : World) (hr0 : Kd.C k66 w A0 l0.length l0) (hc0 : l0.length ≤ c0) (h : spec_l16Flex.f k l0 a1 = some r) :
 Calls Try.prog 80 #[.slice A0 l0.length c0, .int .i64 a1] w fun e w' => ∃ v0_ : Value, e = .returned (v0_) ∧ Kd.R (Kd.int .i64) 3 w' w.heap.size (fun _ => True) v0_ r ∧ Below w.heap.size w w' := by
 have hu66 := Try.underlying66
 have hu134 := Try.underlying134
 unfold spec_l16Flex.f at h
 by_cases hl : l0.length ≤ 100000
 · rw [if_pos hl] at h
   have HL := aMk hl
   have HR := aMk hr0
   have HH := aMk h
   clear h hl hr0 hc0
   go_enter Try.func80, Try.ntmps80
   go_wp2
   go_loopg [6, 7] l0.length (fun kq v6 v7 w' => ∃ (n : Nat) (v1 : Value), v7 = .int .i64 (n : Int) ∧ v6 = .int .i64 (sumT ((l0.take n).map beg1) 0) ∧ Aside0 (n + kq = l0.length) ∧ Aside0 (w'.heap[w.heap.size]? = some (.cells #[.slice A0 l0.length c0, v1, .slice none 0 0, .slice none 0 0, .bool false, .int .i64 a1, .int .i64 0] 134 (0, 0))) ∧ Aside0 (Kd.R (Kd.int .i64) 3 w' w.heap.size (fun _ => True) v1 (((l0.take n).map beg1).map (·.t))) ∧ Aside0 (Below w.heap.size w w'))
   case atStart => exact ⟨0, .slice none 0 0, rfl, rfl, ⟨by simp⟩, ⟨blk_new _ _⟩, ⟨Kd.R_nil _ _ _ _ _⟩, ⟨bAl (Below.refl _ _) _⟩⟩
   case round =>
    obtain ⟨n, v1, rfl, rfl, HN, HX, HO, HB⟩ := hrel
    by_cases c1 : n < l0.length
    · as_aux_lemma =>
      have hk : gk ≠ 0 := by have := HN.out; omega
      obtain ⟨k1, rfl⟩ := Nat.exists_eq_succ_of_ne_zero hk
      clear hk
      have HN2 : Aside0 (n + 1 + k1 = l0.length) := ⟨by have := HN.out; omega⟩
      have d1 : decide ((n : Int) < (l0.length : Int)) = true := decide_eq_true (by omega)
      have d2 : decide (n < l0.length) = true := decide_eq_true c1
      have hall : ∀ W : World, Below w.heap.size w W → ∃ ad, A0 = some ad ∧ W.cell? (ad.add (n * 5)) = some (.int .i64 (l0.getD n z66).f0) ∧ W.cell? ⟨(ad.add (n * 5)).block, (ad.add (n * 5)).off + 1, none⟩ = some (.int .i64 (l0.getD n z66).f1) ∧ W.cell? ⟨(ad.add (n * 5)).block, (ad.add (n * 5)).off + 2, none⟩ = some (.int .i64 (l0.getD n z66).f2) ∧ W.cell? ⟨(ad.add (n * 5)).block, (ad.add (n * 5)).off + 3, none⟩ = some (.int .i64 (l0.getD n z66).f3) ∧ W.cell? ⟨(ad.add (n * 5)).block, (ad.add (n * 5)).off + 4, none⟩ = some (.int .i64 (l0.getD n z66).f4) := by
       intro W hW
       obtain ⟨ad, eA, x0, x1, x2, x3, x4⟩ := at_T66 (Kd.C_below HR.out hW) (n : Int) (by omega) (by omega)
       unfold rd_T66 at x0 x1 x2 x3 x4
       rw [Int.toNat_natCast] at x0 x1 x2 x3 x4
       exact ⟨ad, eA, x0, x1, x2, x3, x4⟩
      obtain ⟨it, hit⟩ : ∃ x, x = l0.getD n z66 := ⟨_, rfl⟩
      rw [← hit] at hall
      obtain ⟨ad, eA, i0, i1, i2, i3, i4⟩ := hall wr HB.out
      cases eA
      have HITM : Aside0 (∀ W : World, Below w.heap.size w W → W.cell? (ad.add (n * 5)) = some (.int .i64 it.f0) ∧ W.cell? ⟨(ad.add (n * 5)).block, (ad.add (n * 5)).off + 1, none⟩ = some (.int .i64 it.f1) ∧ W.cell? ⟨(ad.add (n * 5)).block, (ad.add (n * 5)).off + 2, none⟩ = some (.int .i64 it.f2) ∧ W.cell? ⟨(ad.add (n * 5)).block, (ad.add (n * 5)).off + 3, none⟩ = some (.int .i64 it.f3) ∧ W.cell? ⟨(ad.add (n * 5)).block, (ad.add (n * 5)).off + 4, none⟩ = some (.int .i64 it.f4)) := ⟨fun W hW => by
       obtain ⟨ad', e, h⟩ := hall W hW
       cases e
       exact h⟩
      obtain ⟨ff, hff⟩ : ∃ x, x = fitI it it.f0 := ⟨_, rfl⟩
      have HFF : Aside0 (spec_l16Fit.f 1 it.f0 it.f1 it.f2 it.f3 it.f4 it.f0 = some ff) := ⟨by rw [hff]; exact fitS_eq it it.f0⟩
      have htk : (l0.take (n + 1)).map beg1 = (l0.take n).map beg1 ++ [beg1 it] := by rw [take_snoc l0 n c1 z66, ← hit, List.map_append]; rfl
      have hbt : (beg1 it).t = ff := hff.symm
      have hsm := sumT_snoc ((l0.take n).map beg1) (beg1 it)
      rw [← htk, hbt] at hsm
      have htt : ((l0.take (n + 1)).map beg1).map (·.t) = ((l0.take n).map beg1).map (·.t) ++ [ff] := by rw [htk, List.map_append]; exact congrArg _ (congrArg (fun x => [x]) hbt)
      have hzl : (((l0.take n).map beg1).map (·.t)).length = n := by rw [List.length_map, List.length_map, List.length_take]; omega
      obtain ⟨zs, hzs⟩ : ∃ zs, zs = ((l0.take n).map beg1).map (·.t) := ⟨_, rfl⟩
      rw [← hzs] at HO hzl htt
      have HZL : Aside0 ((zs.length + 1) * 8 ≤ 140737488355328) := ⟨by rw [hzl]; have := HL.out; omega⟩
      have t1 : wr.cell? ⟨w.heap.size, 1, none⟩ = some v1 := bCe HX.out 1
      have q0 : 0 ≤ (n : Int) := by omega
      have q1 : (n : Int) < (l0.length : Int) := by omega
      have hw : Aside0 (wrap64 ((n : Int) + 1) = ((n + 1 : Nat) : Int)) := ⟨by have := HL.out; unfold wrap64; omega⟩
      have HSM := aMk hsm
      have HTT := aMk htt
      have HZN := aMk hzl
      obtain ⟨sm, hsm0⟩ : ∃ x, x = sumT ((l0.take n).map beg1) 0 := ⟨_, rfl⟩
      rw [← hsm0] at HSM ⊢
      clear hsm htt hzl hzs htk hbt hff hit hall c1 hsm0 HN
      go_upto_region 6 with (fail)
      refine start_ (n := 20) (S := fun w' => w'.cell? ⟨w.heap.size, 1, none⟩ = some v1 ∧ w'.cell? (ad.add (n * 5)) = some (.int .i64 it.f0) ∧ w'.cell? ⟨(ad.add (n * 5)).block, (ad.add (n * 5)).off + 1, none⟩ = some (.int .i64 it.f1) ∧ w'.cell? ⟨(ad.add (n * 5)).block, (ad.add (n * 5)).off + 2, none⟩ = some (.int .i64 it.f2) ∧ w'.cell? ⟨(ad.add (n * 5)).block, (ad.add (n * 5)).off + 3, none⟩ = some (.int .i64 it.f3) ∧ w'.cell? ⟨(ad.add (n * 5)).block, (ad.add (n * 5)).off + 4, none⟩ = some (.int .i64 it.f4)) (ds := [19]) #[false, false, false, false, false, false, false, false, false, false, false, false, false, false, false, false, false, false, false, false] (by kernel_rfl) rfl rfl ⟨t1, i0, i1, i2, i3, i4⟩ (fun hHeld => ?_)
      refine pure_ (i := 0) (N := some 22) (v := ?_) (a' := ?_) #[true, false, false, false, false, false, false, false, false, false, false, false, false, false, false, false, false, false, false, false] rfl rfl (by kernel_rfl) (fun _ _ _ h => h) (Or.inl ⟨by rfl, ?_⟩) ?_ ?_
      rotate_left
      · intro w'
        go_simp
        with_reducible rfl
      rotate_left
      · simp only [Act.put, lSa, lSz, lSs, i64_w, i32_w]
        rfl
      refine pure_ (i := 1) (N := some 23) (v := ?_) (a' := ?_) #[true, true, false, false, false, false, false, false, false, false, false, false, false, false, false, false, false, false, false, false] rfl rfl (by kernel_rfl) (fun _ _ _ h => h) (Or.inl ⟨by rfl, ?_⟩) ?_ ?_
      rotate_left
      · intro w'
        go_simp
        with_reducible rfl
      rotate_left
      · simp only [Act.put, lSa, lSz, lSs, i64_w, i32_w]
        rfl
      refine pure_ (i := 2) (N := some 24) (v := ?_) (a' := ?_) #[true, true, true, false, false, false, false, false, false, false, false, false, false, false, false, false, false, false, false, false] rfl rfl (by kernel_rfl) (fun _ _ _ h => h) (Or.inl ⟨by rfl, ?_⟩) ?_ ?_
      rotate_left
      · intro w'
        go_simp
        with_reducible rfl
      rotate_left
      · simp only [Act.put, lSa, lSz, lSs, i64_w, i32_w]
        rfl
      refine pure_ (i := 3) (N := some 25) (v := ?_) (a' := ?_) #[true, true, true, true, false, false, false, false, false, false, false, false, false, false, false, false, false, false, false, false] rfl rfl (by kernel_rfl) (fun _ _ _ h => h) (Or.inl ⟨by rfl, ?_⟩) ?_ ?_
      rotate_left
      · intro w'
        go_simp
        with_reducible rfl
      rotate_left
      · simp only [Act.put, lSa, lSz, lSs, i64_w, i32_w]
        rfl
      refine pure_ (i := 5) (N := some 27) (v := ?_) (a' := ?_) #[true, true, true, true, false, true, false, false, false, false, false, false, false, false, false, false, false, false, false, false] rfl rfl (by kernel_rfl) (fun _ _ _ h => h) (Or.inl ⟨by rfl, ?_⟩) ?_ ?_
      rotate_left
      · intro w'
        go_simp
        with_reducible rfl
      rotate_left
      · simp only [Act.put, lSa, lSz, lSs, i64_w, i32_w]
        rfl
      refine pure_ (i := 6) (N := some 28) (v := ?_) (a' := ?_) #[true, true, true, true, false, true, true, false, false, false, false, false, false, false, false, false, false, false, false, false] rfl rfl (by kernel_rfl) (fun _ _ _ h => h) (Or.inl ⟨by rfl, ?_⟩) ?_ ?_
      rotate_left
      · intro w'
        go_simp
        with_reducible rfl
      rotate_left
      · simp only [Act.put, lSa, lSz, lSs, i64_w, i32_w]
        rfl
      refine pure_ (i := 7) (N := some 29) (v := ?_) (a' := ?_) #[true, true, true, true, false, true, true, true, false, false, false, false, false, false, false, false, false, false, false, false] rfl rfl (by kernel_rfl) (fun _ _ _ h => h) (Or.inl ⟨by rfl, ?_⟩) ?_ ?_
      rotate_left
      · intro w'
        go_simp
        with_reducible rfl
      rotate_left
      · simp only [Act.put, lSa, lSz, lSs, i64_w, i32_w]
        rfl
      refine pure_ (i := 9) (N := some 31) (v := ?_) (a' := ?_) #[true, true, true, true, false, true, true, true, false, true, false, false, false, false, false, false, false, false, false, false] rfl rfl (by kernel_rfl) (fun _ _ _ h => h) (Or.inl ⟨by rfl, ?_⟩) ?_ ?_
      rotate_left
      · intro w'
        go_simp
        with_reducible rfl
      rotate_left
      · simp only [Act.put, lSa, lSz, lSs, i64_w, i32_w]
        rfl
      refine pure_ (i := 10) (N := some 32) (v := ?_) (a' := ?_) #[true, true, true, true, false, true, true, true, false, true, true, false, false, false, false, false, false, false, false, false] rfl rfl (by kernel_rfl) (fun _ _ _ h => h) (Or.inl ⟨by rfl, ?_⟩) ?_ ?_
      rotate_left
      · intro w'
        go_simp
        with_reducible rfl
      rotate_left
      · simp only [Act.put, lSa, lSz, lSs, i64_w, i32_w]
        rfl
      refine pure_ (i := 11) (N := some 33) (v := ?_) (a' := ?_) #[true, true, true, true, false, true, true, true, false, true, true, true, false, false, false, false, false, false, false, false] rfl rfl (by kernel_rfl) (fun _ _ _ h => h) (Or.inl ⟨by rfl, ?_⟩) ?_ ?_
      rotate_left
      · intro w'
        go_simp
        with_reducible rfl
      rotate_left
      · simp only [Act.put, lSa, lSz, lSs, i64_w, i32_w]
        rfl
      refine pure_ (i := 12) (N := some 34) (v := ?_) (a' := ?_) #[true, true, true, true, false, true, true, true, false, true, true, true, true, false, false, false, false, false, false, false] rfl rfl (by kernel_rfl) (fun _ _ _ h => h) (Or.inl ⟨by rfl, ?_⟩) ?_ ?_
      rotate_left
      · intro w'
        go_simp
        with_reducible rfl
      rotate_left
      · simp only [Act.put, lSa, lSz, lSs, i64_w, i32_w]
        rfl
      refine take_ (i := 4) (N := some 26) (v := ?_) (a' := ?_) #[true, true, true, true, true, true, true, true, false, true, true, true, true, false, false, false, false, false, false, false] rfl rfl (by kernel_rfl) (fun _ _ _ h => h) (Or.inl ⟨by rfl, ?_⟩) hHeld ?_ ?_
      rotate_left
      · rintro w' ⟨s0, s1, s2, s3, s4, s5⟩
        go_simp
        with_reducible rfl
      rotate_left
      · simp only [Act.put, lSa, lSz, lSs, i64_w, i32_w]
        rfl
      refine take_ (i := 8) (N := some 30) (v := ?_) (a' := ?_) #[true, true, true, true, true, true, true, true, true, true, true, true, true, false, false, false, false, false, false, false] rfl rfl (by kernel_rfl) (fun _ _ _ h => h) (Or.inl ⟨by rfl, ?_⟩) hHeld ?_ ?_
      rotate_left
      · rintro w' ⟨s0, s1, s2, s3, s4, s5⟩
        go_simp
        with_reducible rfl
      rotate_left
      · simp only [Act.put, lSa, lSz, lSs, i64_w, i32_w]
        rfl
      refine take_ (i := 13) (N := some 35) (v := ?_) (a' := ?_) #[true, true, true, true, true, true, true, true, true, true, true, true, true, true, false, false, false, false, false, false] rfl rfl (by kernel_rfl) (fun _ _ _ h => h) (Or.inl ⟨by rfl, ?_⟩) hHeld ?_ ?_
      rotate_left
      · rintro w' ⟨s0, s1, s2, s3, s4, s5⟩
        go_simp
        with_reducible rfl
      rotate_left
      · simp only [Act.put, lSa, lSz, lSs, i64_w, i32_w]
        rfl
      refine one_ (i := 14) (N := some 36) #[true, true, true, true, true, true, true, true, true, true, true, true, true, true, true, false, false, false, false, false] rfl rfl (by kernel_rfl) (by decide) (fun K hK => ?_)
      refine goes_ Try.func117 (by kernel_rfl) rfl #[.agg #[.int .i64 it.f0, .int .i64 it.f1, .int .i64 it.f2, .int .i64 it.f3, .int .i64 it.f4], .int .i64 it.f0] (by rfl) rfl rfl (by simp only [List.map_toArray, List.map_cons, List.map_nil]; rfl) ?_
      with_reducible refine (spec_l16Fit.calls 1 it.f0 it.f1 it.f2 it.f3 it.f4 it.f0 ff _ HFF.out).mono ?_
      rintro e w7 ⟨rfl, hd7⟩
      refine ⟨_, rfl, ?_⟩
      have HB7 := aMk (below_then (below_drew (Below.refl wr.heap.size wr)) (Nat.le_refl _) hd7)
      clear hd7
      refine hK.out _ _ ⟨(pw_cell_below HB7.out t1), (pw_cell_below HB7.out i0), (pw_cell_below HB7.out i1), (pw_cell_below HB7.out i2), (pw_cell_below HB7.out i3), (pw_cell_below HB7.out i4)⟩ (fun hHeld => ?_)
      clear hK K
      refine norm_ (a' := ?_) ?_ ?_
      rotate_left
      · show Act.put _ (some 36) _ = _
        simp only [Act.put, lSa, lSz, lSs, i64_w, i32_w]
        rfl
      refine one_ (i := 15) (N := some 37) #[true, true, true, true, true, true, true, true, true, true, true, true, true, true, true, true, false, false, false, false] rfl rfl (by kernel_rfl) (by decide) (fun K hK => ?_)
      refine value_ (w1 := ?_) (v := ?_) (by rfl) rfl ?_ ?_
      rotate_left 2
      · go_simp
        constructor
        · rfl
        · rfl
      have HB7b := aMk (bAl HB7.out (.cells #[.int .i64 ff] 3))
      refine hK.out _ _ ⟨(pw_cell_below HB7b.out t1), (pw_cell_below HB7b.out i0), (pw_cell_below HB7b.out i1), (pw_cell_below HB7b.out i2), (pw_cell_below HB7b.out i3), (pw_cell_below HB7b.out i4)⟩ (fun hHeld => ?_)
      clear hK K
      refine norm_ (a' := ?_) ?_ ?_
      rotate_left
      · show Act.put _ (some 37) _ = _
        simp only [Act.put, lSa, lSz, lSs, i64_w, i32_w]
        rfl
      refine one_ (i := 16) (N := some 38) #[true, true, true, true, true, true, true, true, true, true, true, true, true, true, true, true, true, false, false, false] rfl rfl (by kernel_rfl) (by decide) (fun K hK => ?_)
      refine Kd.R_append_step (Kd.int .i64) (w0 := w) w.heap.size (by rfl) (.tmp 26) (.tmp 37) 22 3 (.int .i64 0) 8 rfl Try.underlying22 info3 rfl (by decide) (by decide) _ zs ff [.int .i64 ff] (fun _ => True) (fun _ => False) rfl ?hx rfl (fun _ hk => hk.elim) (fun _ _ => trivial) ?hO ?hB ?hS ?hl ?_
      case hx => first | (go_simp; done) | (go_simp; rfl)
      case hO => exact (Kd.R_below HO.out HB7.out)
      case hB => exact (below_step HB.out HB7.out)
      case hS => exact (Nat.le_trans HB.out.size HB7.out.size)
      case hl => exact HZL.out
      intro v8 w8 ho8 hb8 hg8 _
      obtain ⟨A8, c8, hv8⟩ := Kd.R_slice ho8
      rw [List.length_append, List.length_singleton] at hv8
      subst hv8
      have HO8 := aMk ho8
      have HB8 := aMk hb8
      have hx8 := blk_grown (blk_below HX.out HB7.out) hg8 (Kd.R_ne (Kd.R_below HO.out HB7.out) (blk_below HX.out HB7.out) (by decide))
      have HX8 := aMk hx8
      obtain ⟨j0, j1, j2, j3, j4⟩ := HITM.out w8 hb8
      clear ho8 hb8 hg8 hx8
      refine hK.out _ _ ⟨(bCe HX8.out 1), j0, j1, j2, j3, j4⟩ (fun hHeld => ?_)
      clear hK K
      refine norm_ (a' := ?_) ?_ ?_
      rotate_left
      · show Act.put _ (some 38) _ = _
        simp only [Act.put, lSa, lSz, lSs, i64_w, i32_w]
        rfl
      refine pure_ (i := 17) (N := some 39) (v := ?_) (a' := ?_) #[true, true, true, true, true, true, true, true, true, true, true, true, true, true, true, true, true, true, false, false] rfl rfl (by kernel_rfl) (fun _ _ _ h => h) (Or.inl ⟨by rfl, ?_⟩) ?_ ?_
      rotate_left
      · intro w'
        go_simp
        with_reducible rfl
      rotate_left
      · simp only [Act.put, lSa, lSz, lSs, i64_w, i32_w]
        rfl
      refine pure_ (i := 18) (N := some 40) (v := ?_) (a' := ?_) #[true, true, true, true, true, true, true, true, true, true, true, true, true, true, true, true, true, true, true, false] rfl rfl (by kernel_rfl) (fun _ _ _ h => h) (Or.inl ⟨by rfl, ?_⟩) ?_ ?_
      rotate_left
      · intro w'
        go_simp
        with_reducible rfl
      rotate_left
      · simp only [Act.put, lSa, lSz, lSs, i64_w, i32_w]
        rfl
      refine last_ (i := 19) (N := none) #[true, true, true, true, true, true, true, true, true, true, true, true, true, true, true, true, true, true, true, true] rfl rfl (by kernel_rfl) (by decide) (fun K hK => ?_)
      have hsc := (bCe HX8.out 1 : w8.cell? ⟨w.heap.size, 1, none⟩ = some v1)
      have hsf := (bFr HX8.out 1 : w8.frozen? ⟨w.heap.size, 1, none⟩ = false)
      refine skip_ (w1 := ?_) (by rfl) rfl ?_ ?_
      rotate_left
      · go_simp
        rfl
      refine hK.out _ _ ?_
      clear hK K
      refine done_ (by kernel_rfl) ?_
      have HXZ := aMk (blk_set HX8.out 1 (.slice A8 (zs.length + 1) c8))
      have HOZ := aMk (Kd.R_set HO8.out HX8.out (by decide) 1 (.slice A8 (zs.length + 1) c8))
      have HBZ : Aside0 (Below w.heap.size w (w8.setCell ⟨w.heap.size, 1, none⟩ (.slice A8 (zs.length + 1) c8))) := ⟨bSe HB8.out (Nat.le_refl _)⟩
      clear HX8 HO8 HB8 HB7 HB7b HX HO HB t1 i0 i1 i2 i3 i4
      generalize (w8.setCell ⟨w.heap.size, 1, none⟩ (.slice A8 (zs.length + 1) c8)) = wz at HXZ HOZ HBZ ⊢
      have hr8 := (Kd.R_reads' HOZ.out).2.2
      obtain ⟨ad8, eA8, f8⟩ := Kd.at_int hr8 (n : Int) (by omega) (by rw [List.length_append, List.length_singleton]; have := HZN.out; omega)
      have f8' : wz.cell? (ad8.add n) = some (.int .i64 ff) := by
       unfold rd at f8
       rw [Int.toNat_natCast, List.getD_eq_getElem?_getD, List.getElem?_append_right (by have := HZN.out; omega), HZN.out, Nat.sub_self] at f8
       exact f8
      cases eA8
      have y1 : wz.cell? ⟨w.heap.size, 1, none⟩ = some (.slice (some ad8) (zs.length + 1) c8) := bCe HXZ.out 1
      have q2 : (n : Int) < ((zs.length + 1 : Nat) : Int) := by have := HZN.out; omega
      have q2' : (n : Int) < (zs.length : Int) + 1 := by have := HZN.out; omega
      clear f8 hr8
      go_wp2
      go_roundg k1
      case measure => omega
      case rel => exact ⟨n + 1, _, by first | rw [hw.out] | rfl | go_num, by rw [HSM.out], HN2, HXZ, ⟨by rw [HTT.out]; exact HOZ.out⟩, HBZ⟩
    · have d1 : decide ((n : Int) < (l0.length : Int)) = false := decide_eq_false (by omega)
      have d2 : decide (n < l0.length) = false := decide_eq_false c1
      obtain rfl : n = l0.length := by have := HN.out; omega
      rw [List.take_length] at HO ⊢
      have hS0 : begS l0 a1 = ⟨l0, (begL l0 a1).map (·.t), (begL l0 a1).map (·.fx), (begL l0 a1).map (·.f), decide (sumT (l0.map beg1) 0 < a1), a1, 0⟩ := rfl
      have hS1 : begSS l0 a1 = ⟨l0, (begL l0 a1).map (·.t), (begL l0 a1).map (·.fx), (begL l0 a1).map (·.f), decide (sumT (l0.map beg1) 0 < a1), a1, leftN (begS l0 a1) l0.length⟩ := rfl
      have hbt : (begL l0 a1).map (·.t) = (l0.map beg1).map (·.t) := by unfold begL; rw [List.map_map]; rfl
      have hbl := begL_len l0 a1
      have hget : ∀ n, n < l0.length → (begL l0 a1).getD n zFx = beg2 (decide (sumT (l0.map beg1) 0 < a1)) (beg1 (l0.getD n z66)) := by
       intro n hn
       unfold begL
       rw [List.getD_eq_getElem?_getD, List.getElem?_map, List.getElem?_map, List.getElem?_eq_getElem hn, List.getD_eq_getElem?_getD, List.getElem?_eq_getElem hn]
       rfl
      obtain ⟨sm, hsm⟩ : ∃ x, x = sumT (l0.map beg1) 0 := ⟨_, rfl⟩
      rw [← hsm] at hS0 hS1 hget ⊢
      obtain ⟨gr, hgr⟩ : ∃ gr, gr = decide (sm < a1) := ⟨_, rfl⟩
      have dg : decide (sm < a1) = gr := hgr.symm
      rw [dg] at hS0 hS1 hget
      obtain ⟨xs, hxs⟩ : ∃ xs, xs = begL l0 a1 := ⟨_, rfl⟩
      rw [← hxs] at hS0 hS1 hget hbt hbl
      rw [← hbt] at HO
      obtain ⟨sz, hsz⟩ : ∃ z, z = xs.map (·.t) := ⟨_, rfl⟩
      rw [← hsz] at hS0 hS1 HO
      rw [hS0] at hS1
      have hh := HH.out
      rw [hS1] at hh
      have HH1 := aMk hh
      have HGET := aMk hget
      have HXL := aMk hbl
      have HSZ := aMk hsz
      have HSL : Aside0 (sz.length = l0.length) := ⟨by rw [hsz, List.length_map, hbl]⟩
      obtain ⟨A1, c1', rfl, hc1, hr1⟩ := Kd.R_reads HO.out
      have y4 : wr.cell? ⟨w.heap.size, 4, none⟩ = some (.bool false) := bCe HX.out 4
      have z4 : wr.frozen? ⟨w.heap.size, 4, none⟩ = false := bFr HX.out 4
      clear hS0 hS1 hh hbt hbl hget hsm hgr hxs hsz hc1 hr1 c1 HH HN
      go_wp2
      have HX4 := aMk (blk_set HX.out 4 (.bool gr))
      have HO4 := aMk (R_lt' (Kd.R_set HO.out HX.out (by decide) 4 (.bool gr)))
      have HB4 : Aside0 (Below w.heap.size w (wr.setCell ⟨w.heap.size, 4, none⟩ (.bool gr))) := ⟨bSe HB.out (Nat.le_refl _)⟩
      clear y4 z4 HX HO HB
      generalize (wr.setCell ⟨w.heap.size, 4, none⟩ (.bool gr)) = w4 at HX4 HO4 HB4 ⊢
      have HX5 : Aside0 (w4.heap[w.heap.size]? = some (.cells #[.slice A0 l0.length c0, .slice A1 sz.length c1', .slice none 0 0, .slice none 0 0, .bool gr, .int .i64 a1, .int .i64 0] 134 (0, 0))) := ⟨HX4.out⟩
      clear HX4
      have HBB : Aside0 (w.heap.size ≤ w4.heap.size) := ⟨HB4.out.size⟩
      obtain ⟨bb, hbb⟩ : ∃ b, b = w4.heap.size := ⟨_, rfl⟩
      rw [← hbb] at HO4 HBB
      have HBW : Aside0 (bb ≤ w4.heap.size) := ⟨by rw [hbb]; exact Nat.le_refl _⟩
      clear hbb
      go_loopg [8, 9, 10, 11] l0.length (fun kq v8 v9 v10 v11 w' => ∃ (n : Nat) (v2 v3 : Value), v8 = .int .i64 (n : Int) ∧ Aside0 (n + kq = l0.length) ∧ Aside0 (w'.heap[w.heap.size]? = some (.cells #[.slice A0 l0.length c0, .slice A1 sz.length c1', v2, v3, .bool gr, .int .i64 a1, .int .i64 0] 134 (0, 0))) ∧ Aside0 (Kd.R (Kd.int .i64) 3 w' w.heap.size (fun k => k < bb) (.slice A1 sz.length c1') sz) ∧ Aside0 (Kd.R Kd.bool 4 w' w.heap.size (fun _ => True) v2 ((xs.take n).map (·.fx))) ∧ Aside0 (Kd.R (Kd.int .i64) 3 w' bb (fun _ => True) v3 ((xs.take n).map (·.f))) ∧ Aside0 (Below w.heap.size w w') ∧ Aside0 (bb ≤ w'.heap.size))
      case atStart => exact ⟨0, .slice none 0 0, .slice none 0 0, rfl, ⟨by simp⟩, HX5, HO4, ⟨Kd.R_nil _ _ _ _ _⟩, ⟨Kd.R_nil _ _ _ _ _⟩, HB4, HBW⟩
      case round =>
       clear HX5 HO4 HB4 HBW
       obtain ⟨n, v2, v3, rfl, HN, HX, HO, HP, HQ, HB, HBW⟩ := hrel
       by_cases c1 : n < l0.length
       · as_aux_lemma =>
         have hk : gk ≠ 0 := by have := HN.out; omega
         obtain ⟨k1, rfl⟩ := Nat.exists_eq_succ_of_ne_zero hk
         clear hk
         have HN2 : Aside0 (n + 1 + k1 = l0.length) := ⟨by have := HN.out; omega⟩
         have d3 : decide ((n : Int) < (l0.length : Int)) = true := decide_eq_true (by omega)
         have d4 : decide (n < l0.length) = true := decide_eq_true c1
         obtain ⟨ad, eA, i0, i1, i2, _, _⟩ := at_T66 (Kd.C_below HR.out HB.out) (n : Int) (by omega) (by omega)
         unfold rd_T66 at i0 i1 i2
         rw [Int.toNat_natCast] at i0 i1 i2
         have hget := HGET.out n c1
         obtain ⟨it, hit⟩ : ∃ x, x = l0.getD n z66 := ⟨_, rfl⟩
         rw [← hit] at i0 i1 i2 hget
         cases eA
         obtain ⟨ad1, eA1, s1⟩ := Kd.at_int (Kd.R_reads' HO.out).2.2 (n : Int) (by omega) (by have := HSL.out; omega)
         have hsg : sz.getD n 0 = (beg1 it).t := by
          have e := congrArg Fx.t hget
          rw [HSZ.out, List.getD_eq_getElem?_getD, List.getElem?_map]
          rw [List.getD_eq_getElem?_getD, List.getElem?_eq_getElem (by rw [HXL.out]; exact c1)] at e
          rw [List.getElem?_eq_getElem (by rw [HXL.out]; exact c1)]
          exact e
         have s1' : wr.cell? (ad1.add n) = some (.int .i64 (beg1 it).t) := by
          unfold rd at s1
          rw [Int.toNat_natCast, hsg] at s1
          exact s1
         cases eA1
         have hfx := fixS_eq gr (beg1 it)
         rw [← hget] at hfx
         have hf : (xs.getD n zFx).f = clampI (if gr = true then it.f1 else it.f2) := by rw [hget]; rfl
         obtain ⟨t, ht⟩ : ∃ t, t = (beg1 it).t := ⟨_, rfl⟩
         rw [← ht] at s1' hfx
         obtain ⟨fa, hfa⟩ : ∃ x, x = clampI (if gr = true then it.f1 else it.f2) := ⟨_, rfl⟩
         obtain ⟨fb, hfb⟩ : ∃ b, b = (if gr = true then decide (it.f0 > t) else decide (it.f0 < t)) := ⟨_, rfl⟩
         have hfx2 : (fb || decide (fa = 0)) = (xs.getD n zFx).fx := by rw [hfb, hfa]; exact hfx
         rw [← hfa] at hf
         have htk := take_snoc xs n (by rw [HXL.out]; exact c1) zFx
         have HTF : Aside0 ((xs.take (n + 1)).map (·.f) = (xs.take n).map (·.f) ++ [fa]) := ⟨by rw [htk, List.map_append]; exact congrArg _ (congrArg (fun x => [x]) hf)⟩
         have HTX : Aside0 ((xs.take (n + 1)).map (·.fx) = (xs.take n).map (·.fx) ++ [fb || decide (fa = 0)]) := ⟨by rw [htk, List.map_append, hfx2]; rfl⟩
         have hln : (xs.take n).length ≤ n := by rw [List.length_take]; omega
         have HLF : Aside0 ((((xs.take n).map (·.f)).length + 1) * 8 ≤ 140737488355328) := ⟨lim_map _ hln (Nat.le_trans HL.out (by decide)) c1⟩
         have HLX : Aside0 ((((xs.take n).map (·.fx)).length + 1) * 1 ≤ 140737488355328) := ⟨by rw [List.length_map]; have := HL.out; omega⟩
         obtain ⟨fas, hfas⟩ : ∃ z, z = (xs.take n).map (·.f) := ⟨_, rfl⟩
         obtain ⟨fxs, hfxs⟩ : ∃ z, z = (xs.take n).map (·.fx) := ⟨_, rfl⟩
         rw [← hfas] at HTF HLF HQ
         rw [← hfxs] at HTX HLX HP
         have HFA := aMk hfa
         have HFB := aMk hfb
         have y1 : wr.cell? ⟨w.heap.size, 1, none⟩ = some (.slice (some ad1) sz.length c1') := bCe HX.out 1
         have y4 : wr.cell? ⟨w.heap.size, 4, none⟩ = some (.bool gr) := bCe HX.out 4
         have q0 : 0 ≤ (n : Int) := by omega
         have q1 : (n : Int) < (l0.length : Int) := by omega
         have q2 : (n : Int) < (sz.length : Int) := by have := HSL.out; omega
         have hw : Aside0 (wrap64 ((n : Int) + 1) = ((n + 1 : Nat) : Int)) := ⟨by have := HL.out; unfold wrap64; omega⟩
         clear hit hget hsg s1 hfx ht hfa hfb hfx2 hf htk hln hfas hfxs c1 HN
         obtain ⟨fd, hfd⟩ : ∃ x, x = clampI it.f2 := ⟨_, rfl⟩
         obtain ⟨fe, hfe⟩ : ∃ x, x = clampI it.f1 := ⟨_, rfl⟩
         have HCD : Aside0 (∀ W, Calls Try.prog 118 #[.int .i64 it.f2] W fun e w' => e = .returned (.int .i64 fd) ∧ Drawn0 W w') := ⟨fun W => by rw [hfd]; exact factS_calls it.f2 W⟩
         have HCE : Aside0 (∀ W, Calls Try.prog 118 #[.int .i64 it.f1] W fun e w' => e = .returned (.int .i64 fe) ∧ Drawn0 W w') := ⟨fun W => by rw [hfe]; exact factS_calls it.f1 W⟩
         have HFD : Aside0 (gr = false → fa = fd) := ⟨fun h => by rw [HFA.out, h, hfd]; rfl⟩
         have HFE : Aside0 (gr = true → fa = fe) := ⟨fun h => by rw [HFA.out, h, hfe]; rfl⟩
         clear hfd hfe
         go_upto_if 85 with (go_at_call 118; (with_reducible refine (HCD.out wr).mono ?_); rintro e w5 ⟨rfl, hd5⟩; have HB5 := aMk hd5.below; clear hd5; have i0' := pw_cell_below HB5.out i0; have i1' := pw_cell_below HB5.out i1; have y1' := pw_cell_below HB5.out y1; have y4' := pw_cell_below HB5.out y4; have s1 := pw_cell_below HB5.out s1')
         go_cut [9, 11] (fun v9 v11 wd => v9 = .int .i64 fa ∧ v11 = .bool fb ∧ Aside0 (Below w5.heap.size w5 wd))
         case first =>
          have hb := HFB.out
          cases gr
          · rw [if_neg (by decide)] at hb
            have HFB2 := aMk hb
            clear hb
            go_wp2
            go_meet
            case rel => exact ⟨by rw [HFD.out (by first | rfl | trivial)], by rw [HFB2.out], ⟨Below.refl _ _⟩⟩
          · rw [if_pos rfl] at hb
            have HFB2 := aMk hb
            clear hb
            go_wp2_with (go_at_call 118; (with_reducible refine (HCE.out w5).mono ?_); rintro e w6 ⟨rfl, hd6⟩; have HB6 := aMk hd6.below; clear hd6; have i0'' := pw_cell_below HB6.out i0'; have y1'' := pw_cell_below HB6.out y1'; have s1'' := pw_cell_below HB6.out s1)
            go_meet
            case rel => exact ⟨by rw [HFE.out (by first | rfl | trivial)], by rw [HFB2.out], HB6⟩
         case rest =>
          obtain ⟨rfl, rfl, HB6⟩ := hcut
          have HBC := aMk (below_step HB5.out HB6.out)
          have HXC := aMk (blk_below HX.out HBC.out)
          have HOC := aMk (Kd.R_below HO.out HBC.out)
          have HPC := aMk (Kd.R_below HP.out HBC.out)
          have HQC := aMk (Kd.R_below HQ.out HBC.out)
          have HBD := aMk (below_step HB.out HBC.out)
          have HBE := aMk (Nat.le_trans HBW.out HBC.out.size)
          clear HX HO HP HQ HB HBW HB5 HB6 HBC i0 i1 i2 i0' i1' y1 y1' y4 y4' s1 s1' HCD HCE HFD HFE HFA HFB
          have y3 : wc.cell? ⟨w.heap.size, 3, none⟩ = some v3 := bCe HXC.out 3
          go_upto_region 19 with (first | ((with_reducible refine gate_builtin (b := .append) (xs := #[.tmp 105, .tmp 107]) rfl ?_); at_builtin; refine Kd.R_append (Kd.int .i64) (w0 := wc) bb rfl (.tmp 105) (.tmp 107) 22 3 (.int .i64 0) 8 rfl Try.underlying22 info3 rfl (by decide) (by decide) _ fas fa [.int .i64 fa] (fun _ => True) (fun _ => False) rfl ?q1 rfl (fun _ hk => hk.elim) (fun _ _ => trivial) ?q2 ?q3 ?q4 ?hl ?_; (case q1 => first | (go_simp; done) | (go_simp; rfl)); (case q2 => exact HQC.out); (case q3 => exact (Below.refl _ _)); (case q4 => exact HBE.out); (case hl => exact HLF.out); intro v8 w8 ho hb hg hat; obtain ⟨A8, c8, hv8⟩ := Kd.R_slice ho; rw [List.length_append, List.length_singleton] at hv8; subst hv8; have HQ8 := aMk ho; have HX8 := aMk (blk_grown HXC.out hg (Kd.R_ne HQC.out HXC.out (by decide))); have HO8 := aMk (R_away HOC.out hg (fun k hk _ e => absurd (own_ge HQC.out (Nat.le_refl _) k e.symm) (Nat.not_le.2 hk))); have HP8 := aMk (Kd.R_over' HPC.out (Kd.R_typed HQC.out) (by decide) hg); have HB8 : Aside0 (Below w.heap.size w w8) := ⟨pw_below_grown HBD.out _ HBD.out.size hg (own_ge HQC.out HBB.out)⟩; have HZ8 := aMk (Nat.le_trans HBE.out hg.size); have x3 : w8.cell? ⟨w.heap.size, 3, none⟩ = some v3 := bCe HX8.out 3; have z3 : w8.frozen? ⟨w.heap.size, 3, none⟩ = false := bFr HX8.out 3; clear ho hb hg hat))
          have HXA := aMk (blk_set HX8.out 3 (.slice A8 (fas.length + 1) c8))
          have HOA := aMk (Kd.R_set HO8.out HX8.out (by decide) 3 (.slice A8 (fas.length + 1) c8))
          have HPA := aMk (Kd.R_set HP8.out HX8.out (by decide) 3 (.slice A8 (fas.length + 1) c8))
          have HQA := aMk (Kd.R_set HQ8.out HX8.out (by decide) 3 (.slice A8 (fas.length + 1) c8))
          have HBA : Aside0 (Below w.heap.size w (w8.setCell ⟨w.heap.size, 3, none⟩ (.slice A8 (fas.length + 1) c8))) := ⟨bSe HB8.out (Nat.le_refl _)⟩
          have HBF : Aside0 (bb ≤ (w8.setCell ⟨w.heap.size, 3, none⟩ (.slice A8 (fas.length + 1) c8)).heap.size) := ⟨by rw [World.size_setCell]; exact HZ8.out⟩
          clear HX8 HO8 HP8 HQ8 HB8 HZ8 HXC HOC HPC HQC HBD HBE y3 x3 z3
          generalize (w8.setCell ⟨w.heap.size, 3, none⟩ (.slice A8 (fas.length + 1) c8)) = wz at HXA HOA HPA HQA HBA HBF ⊢
          have y2 : wz.cell? ⟨w.heap.size, 2, none⟩ = some v2 := bCe HXA.out 2
          cases fb
          · by_cases hz : fa = 0
            · have e0 : (fa == 0) = true := beq_iff_eq.2 hz
              have e1 : decide (fa = 0) = true := decide_eq_true hz
              have HE := aMk e1
              clear hz e1
              go_wp2_with (first | ((with_reducible refine gate_builtin (b := .append) (xs := #[.tmp 115, .tmp 121]) rfl ?_); at_builtin; refine Kd.R_append Kd.bool (w0 := w) w.heap.size rfl (.tmp 115) (.tmp 121) 58 4 (.bool false) 1 rfl Try.underlying58 infoF4 rfl (by decide) (by decide) _ fxs true [.bool true] (fun _ => True) (fun _ => False) rfl ?q1 rfl (fun _ hk => hk.elim) (fun _ _ => trivial) ?q2 ?q3 ?q4 ?hl ?_; (case q1 => first | (go_simp; done) | (go_simp; rfl)); (case q2 => exact HPA.out); (case q3 => exact HBA.out); (case q4 => exact HBA.out.size); (case hl => exact HLX.out); intro v9 w9 ho hb hg hat; obtain ⟨A9, c9, hv9⟩ := Kd.R_slice ho; rw [List.length_append, List.length_singleton] at hv9; subst hv9; have HP9 := aMk ho; have HX9 := aMk (blk_grown HXA.out hg (Kd.R_ne HPA.out HXA.out (by decide))); have HO9 := aMk (Kd.R_over' HOA.out (Kd.R_typed HPA.out) (by decide) hg); have HQ9 := aMk (Kd.R_over' HQA.out (Kd.R_typed HPA.out) (by decide) hg); have HB9 : Aside0 (Below w.heap.size w w9) := ⟨hb⟩; have HZ9 := aMk (Nat.le_trans HBF.out hg.size); have x2 : w9.cell? ⟨w.heap.size, 2, none⟩ = some v2 := bCe HX9.out 2; have z2 : w9.frozen? ⟨w.heap.size, 2, none⟩ = false := bFr HX9.out 2; clear ho hb hg hat))
              go_roundg k1
              case measure => omega
              case rel => exact ⟨n + 1, _, _, by first | rw [hw.out] | rfl | go_num, HN2, ⟨blk_set HX9.out 2 _⟩, ⟨Kd.R_set HO9.out HX9.out (by decide) 2 _⟩, ⟨by rw [HTX.out, HE.out]; exact Kd.R_set HP9.out HX9.out (by decide) 2 _⟩, ⟨by rw [HTF.out]; exact Kd.R_set HQ9.out HX9.out (by decide) 2 _⟩, ⟨bSe HB9.out (Nat.le_refl _)⟩, ⟨by rw [World.size_setCell]; exact HZ9.out⟩⟩
            · have e0 : (fa == 0) = false := beq_eq_false_iff_ne.2 hz
              have e1 : decide (fa = 0) = false := decide_eq_false hz
              have HE := aMk e1
              clear hz e1
              go_wp2_with (first | ((with_reducible refine gate_builtin (b := .append) (xs := #[.tmp 115, .tmp 121]) rfl ?_); at_builtin; refine Kd.R_append Kd.bool (w0 := w) w.heap.size rfl (.tmp 115) (.tmp 121) 58 4 (.bool false) 1 rfl Try.underlying58 infoF4 rfl (by decide) (by decide) _ fxs false [.bool false] (fun _ => True) (fun _ => False) rfl ?q1 rfl (fun _ hk => hk.elim) (fun _ _ => trivial) ?q2 ?q3 ?q4 ?hl ?_; (case q1 => first | (go_simp; done) | (go_simp; rfl)); (case q2 => exact HPA.out); (case q3 => exact HBA.out); (case q4 => exact HBA.out.size); (case hl => exact HLX.out); intro v9 w9 ho hb hg hat; obtain ⟨A9, c9, hv9⟩ := Kd.R_slice ho; rw [List.length_append, List.length_singleton] at hv9; subst hv9; have HP9 := aMk ho; have HX9 := aMk (blk_grown HXA.out hg (Kd.R_ne HPA.out HXA.out (by decide))); have HO9 := aMk (Kd.R_over' HOA.out (Kd.R_typed HPA.out) (by decide) hg); have HQ9 := aMk (Kd.R_over' HQA.out (Kd.R_typed HPA.out) (by decide) hg); have HB9 : Aside0 (Below w.heap.size w w9) := ⟨hb⟩; have HZ9 := aMk (Nat.le_trans HBF.out hg.size); have x2 : w9.cell? ⟨w.heap.size, 2, none⟩ = some v2 := bCe HX9.out 2; have z2 : w9.frozen? ⟨w.heap.size, 2, none⟩ = false := bFr HX9.out 2; clear ho hb hg hat))
              go_roundg k1
              case measure => omega
              case rel => exact ⟨n + 1, _, _, by first | rw [hw.out] | rfl | go_num, HN2, ⟨blk_set HX9.out 2 _⟩, ⟨Kd.R_set HO9.out HX9.out (by decide) 2 _⟩, ⟨by rw [HTX.out, HE.out]; exact Kd.R_set HP9.out HX9.out (by decide) 2 _⟩, ⟨by rw [HTF.out]; exact Kd.R_set HQ9.out HX9.out (by decide) 2 _⟩, ⟨bSe HB9.out (Nat.le_refl _)⟩, ⟨by rw [World.size_setCell]; exact HZ9.out⟩⟩
          · go_wp2_with (first | ((with_reducible refine gate_builtin (b := .append) (xs := #[.tmp 115, .tmp 121]) rfl ?_); at_builtin; refine Kd.R_append Kd.bool (w0 := w) w.heap.size rfl (.tmp 115) (.tmp 121) 58 4 (.bool false) 1 rfl Try.underlying58 infoF4 rfl (by decide) (by decide) _ fxs true [.bool true] (fun _ => True) (fun _ => False) rfl ?q1 rfl (fun _ hk => hk.elim) (fun _ _ => trivial) ?q2 ?q3 ?q4 ?hl ?_; (case q1 => first | (go_simp; done) | (go_simp; rfl)); (case q2 => exact HPA.out); (case q3 => exact HBA.out); (case q4 => exact HBA.out.size); (case hl => exact HLX.out); intro v9 w9 ho hb hg hat; obtain ⟨A9, c9, hv9⟩ := Kd.R_slice ho; rw [List.length_append, List.length_singleton] at hv9; subst hv9; have HP9 := aMk ho; have HX9 := aMk (blk_grown HXA.out hg (Kd.R_ne HPA.out HXA.out (by decide))); have HO9 := aMk (Kd.R_over' HOA.out (Kd.R_typed HPA.out) (by decide) hg); have HQ9 := aMk (Kd.R_over' HQA.out (Kd.R_typed HPA.out) (by decide) hg); have HB9 : Aside0 (Below w.heap.size w w9) := ⟨hb⟩; have HZ9 := aMk (Nat.le_trans HBF.out hg.size); have x2 : w9.cell? ⟨w.heap.size, 2, none⟩ = some v2 := bCe HX9.out 2; have z2 : w9.frozen? ⟨w.heap.size, 2, none⟩ = false := bFr HX9.out 2; clear ho hb hg hat))
            go_roundg k1
            case measure => omega
            case rel => exact ⟨n + 1, _, _, by first | rw [hw.out] | rfl | go_num, HN2, ⟨blk_set HX9.out 2 _⟩, ⟨Kd.R_set HO9.out HX9.out (by decide) 2 _⟩, ⟨by rw [HTX.out, Bool.true_or]; exact Kd.R_set HP9.out HX9.out (by decide) 2 _⟩, ⟨by rw [HTF.out]; exact Kd.R_set HQ9.out HX9.out (by decide) 2 _⟩, ⟨bSe HB9.out (Nat.le_refl _)⟩, ⟨by rw [World.size_setCell]; exact HZ9.out⟩⟩
       · have d3 : decide ((n : Int) < (l0.length : Int)) = false := decide_eq_false (by omega)
         have d4 : decide (n < l0.length) = false := decide_eq_false c1
         obtain rfl : n = l0.length := by have := HN.out; omega
         have hfl : xs.length = l0.length := HXL.out
         rw [show xs.take l0.length = xs by rw [← hfl, List.take_length]] at HP HQ
         obtain ⟨fas, hfas⟩ : ∃ z, z = xs.map (·.f) := ⟨_, rfl⟩
         obtain ⟨fxs, hfxs⟩ : ∃ z, z = xs.map (·.fx) := ⟨_, rfl⟩
         rw [← hfas] at HQ HH1
         rw [← hfxs] at HP HH1
         have hF : FS w wr w.heap.size bb wr.heap.size A0 c0 (.slice A1 sz.length c1') v2 v3 ⟨l0, sz, fxs, fas, gr, a1, 0⟩ := ⟨HX.out, Nat.le_refl _, blk_lt HX.out, HR.out, HO.out, R_lt' HP.out, R_lt' HQ.out, HB.out, HBB.out, HBW.out, HSL.out, by rw [hfxs, List.length_map]; exact hfl, by rw [hfas, List.length_map]; exact hfl⟩
         have HF := aMk hF
         obtain ⟨lf, hlf⟩ : ∃ x, x = leftN ⟨l0, sz, fxs, fas, gr, a1, 0⟩ l0.length := ⟨_, rfl⟩
         rw [← hlf] at HH1
         have HLC : Aside0 (Calls Try.prog 119 #[.pointer (some ⟨w.heap.size, 0, none⟩)] wr fun e w' => e = .returned (.int .i64 lf) ∧ wr = w') := ⟨by rw [hlf]; exact leftS_calls w wr w.heap.size bb wr.heap.size A0 c0 _ v2 v3 _ hF (Nat.le_trans HL.out (by decide))⟩
         have y6 : wr.cell? ⟨w.heap.size, 6, none⟩ = some (.int .i64 0) := bCe HX.out 6
         have z6 : wr.frozen? ⟨w.heap.size, 6, none⟩ = false := bFr HX.out 6
         clear hfl hfas hfxs hF hlf HX HO HP HQ HB HBW HN c1 HGET HXL HSZ HSL HBB
         go_wp2_with (go_at_call 119; (with_reducible refine HLC.out.mono ?_); rintro e w7 ⟨rfl, rfl⟩)
         have HF6 := aMk (HF.out.set6 lf)
         have HW6 : Aside0 (wr.heap.size ≤ (wr.setCell ⟨w.heap.size, 6, none⟩ (.int .i64 lf)).heap.size) := ⟨by rw [World.size_setCell]; exact Nat.le_refl _⟩
         clear HLC y6 z6 HF
         obtain ⟨bB, hbB⟩ : ∃ b, b = wr.heap.size := ⟨_, rfl⟩
         rw [← hbB] at HF6 HW6
         clear hbB
         generalize (wr.setCell ⟨w.heap.size, 6, none⟩ (.int .i64 lf)) = w6 at HF6 HW6 ⊢
         have HI6 : Aside0 ((Sx.mk l0 sz fxs fas gr a1 lf).items.length ≤ 100000) := ⟨HL.out⟩
         have HF7 : Aside0 (FS w w6 w.heap.size bb bB A0 c0 (.slice A1 sz.length c1') v2 v3 (Sx.mk l0 sz fxs fas gr a1 lf)) := ⟨HF6.out⟩
         clear HF6
         obtain ⟨s0, hs0⟩ : ∃ s, s = Sx.mk l0 sz fxs fas gr a1 lf := ⟨_, rfl⟩
         rw [← hs0] at HF7 HI6 HH1
         clear hs0
         go_loopg [] k (fun kq w' => ∃ s : Sx, Aside0 (flexSO k kq s = some r) ∧ Aside0 (FS w w' w.heap.size bb bB A0 c0 (.slice A1 sz.length c1') v2 v3 s) ∧ Aside0 (bB ≤ w'.heap.size) ∧ Aside0 (s.items.length ≤ 100000))
         case atStart => exact ⟨s0, HH1, HF7, HW6, HI6⟩
         case round =>
          clear HH1 HF7 HW6 HI6
          obtain ⟨s, HH, HF, HW, HI⟩ := hrel
          have hh := HH.out
          obtain ⟨k1, rfl⟩ : ∃ k1, gk = k1 + 1 := by
           cases gk with
           | zero => unfold flexSO at hh; cases hh
           | succ m => exact ⟨m, rfl⟩
          unfold flexSO at hh
          by_cases hm : mOkS k s = true
          · rw [if_pos hm] at hh
            by_cases hz : frN s.fixed s.items.length = []
            · as_aux_lemma =>
              rw [if_pos hz] at hh
              have HRC := aMk (roundS1 k w wr w.heap.size bb bB A0 c0 (.slice A1 sz.length c1') v2 v3 s s HF.out HW.out (Nat.le_trans HI.out (by decide)) hm (fun h => absurd hz h) (fun _ => rfl))
              rw [decide_eq_true hz] at HRC
              have HRR := aMk (Option.some.inj hh)
              clear hh hz hm HF HH
              go_wp2_with (go_at_call 120; (with_reducible refine HRC.out.mono ?_); rintro e w7 ⟨rfl, hf, hs⟩; have HF := aMk hf; have y1 : w7.cell? ⟨w.heap.size, 1, none⟩ = some (.slice A1 sz.length c1') := bCe hf.blk 1; clear hf hs)
              go_ret
              exact ⟨_, rfl, by rw [← HRR.out]; exact Kd.R_mono HF.out.r1 (fun _ _ => trivial), HF.out.b⟩
            · as_aux_lemma =>
              rw [if_neg hz] at hh
              cases hro : roundSO k s with
              | none => rw [hro] at hh; cases hh
              | some s' =>
               rw [hro] at hh
               dsimp only at hh
               have hit : s'.items = s.items := by
                unfold roundSO at hro
                rw [if_pos hm] at hro
                cases hs : spec_l16Spread.f k (absI (rstS s)) ((frN s.fixed s.items.length).map (wtS k s)) with
                | none => rw [hs] at hro; cases hro
                | some shs =>
                 rw [hs] at hro
                 dsimp only at hro
                 by_cases hl : shs.length = (frN s.fixed s.items.length).length
                 · rw [if_pos hl] at hro
                   cases hro
                   rfl
                 · rw [if_neg hl] at hro; cases hro
               have HRC := aMk (roundS1 k w wr w.heap.size bb bB A0 c0 (.slice A1 sz.length c1') v2 v3 s s' HF.out HW.out (Nat.le_trans HI.out (by decide)) hm (fun _ => hro) (fun h => absurd h hz))
               rw [decide_eq_false hz] at HRC
               have HHN := aMk hh
               have HI2 : Aside0 (s'.items.length ≤ 100000) := ⟨by rw [hit]; exact HI.out⟩
               clear hh hz hm HF HH hro hit HI
               go_wp2_with (go_at_call 120; (with_reducible refine HRC.out.mono ?_); rintro e w7 ⟨rfl, hf, hs⟩; have HF := aMk hf; have HW7 := aMk (Nat.le_trans HW.out hs); clear hf hs)
               go_roundg k1
               case measure => omega
               case rel => exact ⟨s', HHN, HF, HW7, HI2⟩
          · rw [if_neg hm] at hh; cases hh
 · rw [if_neg hl] at h; cases h
end Go.Proofs.Ytpknhndanbgkmaa.MFnShares
