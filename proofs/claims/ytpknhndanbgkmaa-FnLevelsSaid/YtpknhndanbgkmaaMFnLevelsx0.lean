-- Written by this session's own program (wip/gen/myprint.py).
import Derived.Test.YtpknhndanbgkmaaProg
import Derived.Below
import Derived.Deep.Draws
import Derived.Deep.AppendLies
import Derived.Maps.AppendAt
import Derived.OwnWalk
import Derived.Laws.BytesArg
import Derived.Laws.MakeOwn
import Derived.Laws.OwnMore
import Derived.Deep.OwnRows
import Derived.Tactics
import Derived.Lib.ConvBytes
import Derived.Laws.Slices
import Derived.WalkKit
import Derived.KernelRfl
import Derived.RowKit3
import Derived.Deep.LoopGhost
import Derived.Deep.QuietTactic
import Derived.BigQuiet
import Derived.WideLaws
import Derived.Deep.DeepCutAuto
import Derived.Deep.CutBlock
import Derived.Deep.RegionHeld3
import Derived.Laws.Rows
import Derived.Lib.AppendStr
import Derived.ArgAppend
import Derived.Laws.IdiomCopy
import Derived.OrdersHeld
import Derived.Laws.BitsLemmas
import Derived.RowKit
import Derived.BigQuiet
import Derived.Laws.CopyOwn
import Derived.LoopIn
import Derived.LoopNIn
import Derived.OwnWalkIn
import Derived.RangeFuncBox
import Derived.RangeFuncFrom
import Derived.RangeFuncLeaves
import Derived.Shelf.Abstract
import Derived.TacticsInMore
import Derived.Test.YtpknhndanbgkmaaShelf
import Derived.WalkMore
import Derived.Test.YtpknhndanbgkmaaWWords
import Derived.Test.YtpknhndanbgkmaaWLast
import Derived.Test.YtpknhndanbgkmaaWTab
import Derived.Test.YtpknhndanbgkmaaWFour
import Derived.Test.YtpknhndanbgkmaaWQPut
import Derived.Test.YtpknhndanbgkmaaWApart
import Derived.Test.YtpknhndanbgkmaaWArr
import Derived.Test.YtpknhndanbgkmaaWZeros
import Derived.Test.YtpknhndanbgkmaaWFoot
import Derived.Test.YtpknhndanbgkmaaWKept
import Derived.Test.YtpknhndanbgkmaaWShare
import Derived.Test.YtpknhndanbgkmaaWN
import Derived.Test.YtpknhndanbgkmaaWFootNe
import Derived.Test.YtpknhndanbgkmaaWAt
import Derived.Test.YtpknhndanbgkmaaWEqStruct
import Derived.Test.YtpknhndanbgkmaaWRepsOne
import Derived.Test.YtpknhndanbgkmaaWInv
import Derived.Test.YtpknhndanbgkmaaWInvWords
import Derived.Test.YtpknhndanbgkmaaWGuard
import Derived.Test.YtpknhndanbgkmaaWNEv
import Derived.Test.YtpknhndanbgkmaaWMore
namespace Go.Proofs.Ytpknhndanbgkmaa.MFnLevels
open Go.RowKit Go.Proofs.YtpknhndanbgkmaaW.PrintWords Go.Proofs.YtpknhndanbgkmaaW.PrintLast Go.Proofs.YtpknhndanbgkmaaW.PrintMore
attribute [local go_sem] max2_int min2_int max_two min_two max_three min_three max_four min_four   -- for this text's walks alone
set_option linter.unusedVariables false
set_option linter.unusedSimpArgs false
set_option linter.defProp false
def bDn := @pw_below_drewN
def bD1 := @below_drew1
def bAl := @below_alloc
def oDt := @of_decide_eq_true
def bFr := @blk_frozen
def bCe := @blk_cell
def bkD := @blk_drewN
def bkA := @blk_alloc
def bSe := @below_set
def wBl := @World.block_lt_of_cell?
def lSa := @List.setIfInBounds_toArray
def lSz := @List.set_cons_zero
def lSs := @List.set_cons_succ
theorem aMk {p : Prop} (h : p) : Aside0 p := ⟨h⟩
theorem oBm {α β : Type} {o : Option α} {f : α → Option β} {b : β} (h : o.bind f = some b) : ∃ a, o = some a ∧ f a = some b := Option.bind_eq_some_iff.mp h
def errW : Option Int → Value
 | none => .nilIface
 | some c => .iface 0 (.int .i64 c)
theorem errW_none : errW none = .nilIface := rfl
theorem errW_some (c : Int) : errW (some c) = .iface 0 (.int .i64 c) := rfl
theorem info3 : (Try.prog.info? 3).map (fun i => (i.zero, i.size, i.bytes)) = some (some (.int .i64 0), 1, 8) := by kernel_rfl
theorem info4 : (Try.prog.info? 4).map (fun i => (i.zero, i.size, i.bytes)) = some (some (.bool false), 1, 1) := by kernel_rfl
-- the values' own types
-- INFO 3
-- IMPORT Derived.Laws.CopyOwn
def RowAt (w : World) (g cap : Nat) (xs : List Int) : Prop := ∃ cur : Array Value, w.heap[g]? = some (.cells cur 3 (0, 0)) ∧ xs.length ≤ cap ∧ cap ≤ maxLen ∧ cur.size = cap ∧ cur.toList.take xs.length = nums .i64 xs
theorem encs_nums (xs : List Int) : encs (Value.int .i64) xs = nums .i64 xs := rfl
theorem rowAt_of_R {w : World} {base : Nat} {ok : Nat → Prop} {v : Value} {xs : List Int} (h : Kd.R (Kd.int .i64) 3 w base ok v xs) (hp : 0 < xs.length) : ∃ g cap, v = .slice (some ⟨g, 0, none⟩) xs.length cap ∧ base ≤ g ∧ RowAt w g cap xs := by
 have ho := Kd.own_of_R h
 rcases ho.2 with ⟨_, hn⟩ | ⟨g, cap, cur, rfl, hg, hh, h1, h2, h3, h4⟩
 · omega
 · exact ⟨g, cap, rfl, hg, cur, hh, h1, h2, by omega, by rw [Nat.mul_one] at h4; exact h4⟩
theorem R_of_rowAt {w : World} {base g cap : Nat} {xs : List Int} (h : RowAt w g cap xs) (hb : base ≤ g) : Kd.R (Kd.int .i64) 3 w base (fun _ => True) (.slice (some ⟨g, 0, none⟩) xs.length cap) xs := by
 obtain ⟨cur, hh, h1, h2, h3, h4⟩ := h
 refine Kd.R_of_own ⟨by rw [encs_nums]; simp [nums], .inr ⟨g, cap, cur, rfl, hb, hh, h1, h2, by omega, ?_⟩⟩ (fun _ _ => trivial)
 rw [Nat.mul_one, h4]; rfl
theorem RowAt.move {w w1 : World} {g cap : Nat} {xs : List Int} (h : RowAt w g cap xs) (hm : w1.heap[g]? = w.heap[g]?) : RowAt w1 g cap xs := by
 obtain ⟨cur, hh, h⟩ := h
 exact ⟨cur, hm.trans hh, h⟩
theorem RowAt.lt {w : World} {g cap : Nat} {xs : List Int} (h : RowAt w g cap xs) : g < w.heap.size := by
 obtain ⟨cur, hh, _⟩ := h
 exact blk_lt hh
theorem RowAt.below {w w1 : World} {g cap : Nat} {xs : List Int} (h : RowAt w g cap xs) (hb : Below w.heap.size w w1) : RowAt w1 g cap xs := h.move (hb.block g h.lt)
theorem RowAt.cell {w : World} {g cap : Nat} {xs : List Int} (h : RowAt w g cap xs) (i : Nat) (hi : i < xs.length) : w.cell? ⟨g, i, none⟩ = some (.int .i64 (xs.getD i 0)) := by
 obtain ⟨cur, hh, h1, h2, h3, h4⟩ := h
 rw [bCe hh i]
 have e := congrArg (fun l => l[i]?) h4
 simp only [List.getElem?_take, if_pos hi, nums, List.getElem?_map, List.getElem?_eq_getElem hi, Option.map_some] at e
 rw [← Array.getElem?_toList, e]
 simp [List.getElem?_eq_getElem hi]
theorem RowAt.frozen {w : World} {g cap : Nat} {xs : List Int} (h : RowAt w g cap xs) (i : Nat) : w.frozen? ⟨g, i, none⟩ = false := by
 obtain ⟨cur, hh, _⟩ := h
 exact bFr hh i
theorem RowAt.cells {w : World} {g cap : Nat} {xs : List Int} (h : RowAt w g cap xs) (off : Nat) (ys : List Int) (hl : off + ys.length ≤ xs.length) : RowAt (w.setCells g off (ys.map (Value.int .i64))) g cap (xs.take off ++ ys ++ xs.drop (off + ys.length)) := by
 obtain ⟨cur, hh, h1, h2, h3, h4⟩ := h
 obtain ⟨cur', a, b, c⟩ := setCells_row (ys.map (Value.int .i64)) off w cur hh (by rw [List.length_map]; omega)
 have hlen : (xs.take off ++ ys ++ xs.drop (off + ys.length)).length = xs.length := by simp; omega
 refine ⟨cur', a, by omega, h2, by omega, ?_⟩
 rw [hlen, c, List.length_map]
 have e1 : cur.toList.take off = nums .i64 (xs.take off) := by
  have := congrArg (List.take off) h4
  rw [List.take_take, Nat.min_eq_left (by omega)] at this
  rw [this]; simp [nums, List.map_take]
 have e2 : (cur.toList.drop (off + ys.length)).take (xs.length - (off + ys.length)) = nums .i64 (xs.drop (off + ys.length)) := by
  have := congrArg (List.drop (off + ys.length)) h4
  rw [List.drop_take] at this
  rw [this]; simp [nums, List.map_drop]
 rw [List.take_append, e1]
 rw [List.take_of_length_le (by simp [nums]; omega)]
 simp only [nums, List.map_append]
 congr 1
 rw [show xs.length - ((List.map (fun x => Value.int IntKind.i64 x) (xs.take off)) ++ List.map (Value.int IntKind.i64) ys).length = xs.length - (off + ys.length) by simp; omega]
 exact e2
theorem RowAt.C {w : World} {g cap : Nat} {xs : List Int} (h : RowAt w g cap xs) : Kd.C (Kd.int .i64) w (some ⟨g, 0, none⟩) xs.length xs := (Kd.R_reads' (R_of_rowAt h (Nat.zero_le g))).2.2
theorem RowAt.src {w : World} {g cap : Nat} {xs : List Int} (h : RowAt w g cap xs) (j : Nat) (v : Value) (hv : (nums .i64 xs)[j]? = some v) : w.cell? ((⟨g, 0, none⟩ : Addr).add j) = some v := by
 have hj : j < xs.length := by
  have := (List.getElem?_eq_some_iff.1 hv).1
  rwa [nums_length] at this
 rw [add_plain, h.cell j hj]
 rw [nums, List.getElem?_map, List.getElem?_eq_getElem hj] at hv
 rw [← hv]; simp [List.getElem?_eq_getElem hj]
theorem copy_same {ops : Array Oper} {rest : List Oper} {o : Oper} {a : Act} {w : World} {Q : Exit → Act → World → Prop} (hgd : o.guard = none) (d s : Operand)
 (ho : o.op = .call { callee := .builtin .copy, args := #[d, s], argTypes := #[22, 22] }) (g cap g8 c8 n : Nat) (xs : List Int) (hd : a.eval d = .slice (some ⟨g, 0, none⟩) n cap) (hs : a.eval s = .slice (some ⟨g8, 0, none⟩) n c8)
 (hn : xs.length = n) (h1 : RowAt w g cap xs) (h2 : RowAt w g8 c8 xs) (h : wpList Try.prog ops Q rest (a.put o.dst (goInt n)) w) : wpList Try.prog ops Q (o :: rest) a w := by
 obtain ⟨cur, hh, q1, q2, q3, q4⟩ := id h1
 refine wpList_copy_own hgd d s 22 22 ho 3 Try.underlying22 (by kernel_rfl) g 0 n cap ⟨g8, 0, none⟩ n c8 hd hs cur 3 hh (nums .i64 xs) (by rw [nums_length, hn]; simp) h2.src (by rw [nums_length]; omega) (fun v hv => by simp only [nums, List.mem_map] at hv; obtain ⟨x, _, rfl⟩ := hv; rfl) ?_
 have e : (cur.toList.take 0 ++ (nums .i64 xs ++ cur.toList.drop (0 + (nums .i64 xs).length))).toArray = cur := by
  rw [List.take_zero, List.nil_append, Nat.zero_add, nums_length, ← q4, List.take_append_drop, Array.toArray_toList]
 rw [e, setRow_self w g cur 3 (0, 0) hh, nums_length, hn]
 exact h
theorem below_cells {w W : World} {g : Nat} (h : Below w.heap.size w W) (hg : w.heap.size ≤ g) : ∀ (vs : List Value) (o : Nat), Below w.heap.size w (W.setCells g o vs) := fun vs o => by
 obtain ⟨h1, h2, h3, h4⟩ := setCells_same g vs o W
 exact ⟨h1.trans h.os, h2.trans h.tape, h3.trans h.output, by rw [h4]; exact h.size, fun k hk => (setCells_far vs o k (by omega)).trans (h.block k hk)⟩
end Go.Proofs.Ytpknhndanbgkmaa.MFnLevels
