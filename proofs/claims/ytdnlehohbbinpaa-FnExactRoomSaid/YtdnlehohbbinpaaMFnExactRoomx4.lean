-- Written by this session's own program (wip/gen/myprint.py).
import Derived.Test.YtdnlehohbbinpaaMFnExactRoomx0
import Derived.Test.YtdnlehohbbinpaaMFnExactRoomx1
import Derived.Test.YtdnlehohbbinpaaMFnExactRoomx3
namespace Go.Proofs.Ytdnlehohbbinpaa.MFnExactRoom
open Go.RowKit Go.Proofs.YtdnlehohbbinpaaW.PrintWords Go.Proofs.YtdnlehohbbinpaaW.PrintLast Go.Proofs.YtdnlehohbbinpaaW.PrintMore
attribute [local go_sem] max2_int min2_int max_two min_two max_three min_three max_four min_four   -- for this text's walks alone
set_option linter.unusedVariables false
set_option linter.unusedSimpArgs false

/-! ### impl_room: function 69, by hand -/
def bcells (x : S59) : Array Value := #[.int .i64 x.f0.f0, .int .i64 x.f0.f1, .int .i64 x.f0.f2, .int .i64 x.f0.f3, .bool x.f1]
/-- A pointer to a band of a call's own. -/
def kBand : Kd S59 where
  sz := 1
  E := [92]
  K w x cs := ∃ g, cs = [.pointer (some ⟨g, 0, none⟩)] ∧ w.heap[g]? = some (.cells (bcells x) 92 (0, 0))
  M w base ok x cs := ∃ g, cs = [.pointer (some ⟨g, 0, none⟩)] ∧ w.heap[g]? = some (.cells (bcells x) 92 (0, 0)) ∧ ok g ∧ base ≤ g
  K_len := by rintro w x cs ⟨g, rfl, _⟩; rfl
  K_one := by
    rintro w x cs ⟨g, rfl, _⟩ u hu
    rw [List.mem_singleton] at hu
    subst hu
    rfl
  K_below := by
    rintro w w1 x cs hb ⟨g, rfl, h⟩
    exact ⟨g, rfl, (hb.block g (blk_lt h)).trans h⟩
  K_of_M := by
    rintro w base ok x cs ⟨g, rfl, h, _⟩
    exact ⟨g, rfl, h⟩
  M_mono := by
    rintro w base ok ok' x cs hm ⟨g, rfl, h, h1, h2⟩
    exact ⟨g, rfl, h, hm g h1, h2⟩
  M_bound := by
    rintro w base ok x cs ⟨g, rfl, h, h1, h2⟩
    exact ⟨g, rfl, h, ⟨h1, h2, blk_lt h, 92, by simp, _, h⟩, h2⟩
  M_move := by
    rintro w w1 base ok x cs hm ⟨g, rfl, h, h1, h2⟩
    exact ⟨g, rfl, (hm g h1).trans h, h1, h2⟩
  M_lower := by
    rintro w base base' ok x cs hb ⟨g, rfl, h, h1, h2⟩
    exact ⟨g, rfl, h, h1, Nat.le_trans hb h2⟩
def takes (x : S59) : Bool := decide (0 < x.f0.f2) && decide (0 < x.f0.f3)
def bandsF (l : List S59) : List S59 := l.filter takes
theorem bandsF_take (l : List S59) (n : Nat) (h : n < l.length) : bandsF (l.take (n + 1)) = if takes (l.getD n z59) = true then bandsF (l.take n) ++ [l.getD n z59] else bandsF (l.take n) := by
  have e : l.take (n + 1) = l.take n ++ [l.getD n z59] := by
    rw [List.take_add_one, List.getD_eq_getElem?_getD, List.getElem?_eq_getElem h]; rfl
  unfold bandsF
  rw [e, List.filter_append]
  by_cases c : takes (l.getD n z59) = true
  · rw [if_pos c, List.filter_cons_of_pos c, List.filter_nil]
  · rw [if_neg c, List.filter_cons_of_neg c, List.filter_nil, List.append_nil]
theorem eqBR (d : Nat) (w : World) (x0 y0 x1 y1 x2 y2 x3 y3 : Int) :
    (Op.equalIn (d + 2) 48 (.agg #[.int .i64 x0, .int .i64 x1, .int .i64 x2, .int .i64 x3]) (.agg #[.int .i64 y0, .int .i64 y1, .int .i64 y2, .int .i64 y3])).run Try.prog w = .ok (x0 == y0 && (x1 == y1 && (x2 == y2 && (x3 == y3)))) w := by
  refine eqA_of Try.underlying48 (by kernel_rfl) ?_
  refine eqf_cons (by rfl) (by go_simp; rfl) (by go_simp; rfl) (by go_simp) ?_
  refine eqf_cons (by rfl) (by go_simp; rfl) (by go_simp; rfl) (by go_simp) ?_
  refine eqf_cons (by rfl) (by go_simp; rfl) (by go_simp; rfl) (by go_simp) ?_
  exact eqf_last (by rfl) (by go_simp; rfl) (by go_simp; rfl) (by go_simp)
theorem infoB : (Try.prog.info? 90).map (fun i => (i.zero, i.size, i.bytes)) = some (some (.pointer none), 1, 8) := by kernel_rfl
def reachB (x : S59) (y h : Int) : Bool := if h = 0 then decide (x.f0.f1 ≤ y) && decide (y < wrap64 (x.f0.f1 + x.f0.f3)) else decide (x.f0.f1 < wrap64 (y + h)) && decide (y < wrap64 (x.f0.f1 + x.f0.f3))
set_option maxHeartbeats 8000000 in
set_option maxRecDepth 100000 in
theorem reaches_calls (x : S59) (y h : Int) (g : Nat) (w : World) (hg : w.heap[g]? = some (.cells (bcells x) 92 (0, 0))) :
    Calls Try.prog 79 #[.pointer (some ⟨g, 0, none⟩), .int .i64 y, .int .i64 h] w fun e w' => e = .returned (.bool (reachB x y h)) ∧ Drawn0 w w' := by
  have hc0 : w.cell? ⟨g, 0, none⟩ = some (.int .i64 x.f0.f0) := (blk_cell hg 0).trans rfl
  have hc1 : w.cell? ⟨g, 1, none⟩ = some (.int .i64 x.f0.f1) := (blk_cell hg 1).trans rfl
  have hc2 : w.cell? ⟨g, 2, none⟩ = some (.int .i64 x.f0.f2) := (blk_cell hg 2).trans rfl
  have hc3 : w.cell? ⟨g, 3, none⟩ = some (.int .i64 x.f0.f3) := (blk_cell hg 3).trans rfl
  have HG := Aside0.mk hg
  clear hg
  obtain ⟨r, hr⟩ : ∃ r, r = reachB x y h := ⟨_, rfl⟩
  rw [← hr]
  unfold reachB at hr
  by_cases c : h = 0
  · rw [if_pos c] at hr
    have c0 : (h == 0) = true := beq_iff_eq.mpr c
    have c1 : (h != 0) = false := by simp [c]
    clear c
    by_cases d : x.f0.f1 ≤ y <;> by_cases e : y < wrap64 (x.f0.f1 + x.f0.f3)
    all_goals
      simp only [d, e, decide_true, decide_false, Bool.and_true, Bool.and_false, Bool.false_and, Bool.true_and] at hr
      subst hr
      first | replace d := decide_eq_false d | replace d := decide_eq_true d
      first | replace e := decide_eq_false e | replace e := decide_eq_true e
      go_enter Try.func79, Try.ntmps79
      go_wp2
      repeat (go_quiet (fail); try go_wp2)
      go_ret
      exact ⟨rfl, by repeat (first | exact Drawn0.refl _ | apply Drawn0.step)⟩
  · rw [if_neg c] at hr
    have c0 : (h == 0) = false := beq_eq_false_iff_ne.mpr c
    have c1 : (h != 0) = true := bne_iff_ne.mpr c
    clear c
    by_cases d : x.f0.f1 < wrap64 (y + h) <;> by_cases e : y < wrap64 (x.f0.f1 + x.f0.f3)
    all_goals
      simp only [d, e, decide_true, decide_false, Bool.and_true, Bool.and_false, Bool.false_and, Bool.true_and] at hr
      subst hr
      first | replace d := decide_eq_false d | replace d := decide_eq_true d
      first | replace e := decide_eq_false e | replace e := decide_eq_true e
      go_enter Try.func79, Try.ntmps79
      go_wp2
      repeat (go_quiet (fail); try go_wp2)
      go_ret
      exact ⟨rfl, by repeat (first | exact Drawn0.refl _ | apply Drawn0.step)⟩
attribute [local go_sem high] eqBR
set_option maxHeartbeats 8000000 in
set_option maxRecDepth 100000 in
theorem bandsOf_calls (A0 : Option Addr) (c0 : Nat) (l0 : List S59) (w : World) (hr0 : Kd.C k59 w A0 l0.length l0) (hc0 : l0.length ≤ c0) (hl : l0.length ≤ 17592186044415) :
    Calls Try.prog 78 #[.slice A0 l0.length c0] w fun e w' => ∃ v0_ : Value, e = .returned v0_ ∧ Kd.R kBand 90 w' w.heap.size (fun _ => True) v0_ (bandsF l0) ∧ Below w.heap.size w w' := by
  have huF := Try.underlying59
  have huR := Try.underlying48
  have huB := Try.underlying92
  have HR0 := Aside0.mk hr0
  have HC0 := Aside0.mk hc0
  have HL := Aside0.mk hl
  clear hr0 hc0 hl
  have HB := Aside0.mk (Below.refl w.heap.size w)
  go_enter Try.func78, Try.ntmps78
  go_wp2_with (first | ((with_reducible refine gate_dst (N := 6) rfl ?_); refine Kd.R_lit kBand _ 90 ?hg (N := 6) ?hd (xs := ([] : List S59)) (inner := []) (ok := fun _ => True) (okp := fun _ => True) ?hr ?hp (fun _ hk => hk) trivial (Below.refl _ _) (Nat.le_refl _) (by simp) ?_; (case hd => rfl); (case hg => rfl); (case hr => first | (go_simp; done) | (go_simp; rfl)); (case hp => exact (Reps.none _ _)); intro v102 w3 ho4 hb hg_ hnew_; clear hg_ hnew_; have n0_ := Aside0.mk (Kd.R_lower ho4 (below_size (by repeat (first | (with_reducible first | exact HB.out | apply below_alloc | apply pw_below_drewN | apply below_drew1) | exact HB.out)))); have n1_ := Aside0.mk (below_step (by repeat (first | (with_reducible first | exact HB.out | apply below_alloc | apply pw_below_drewN | apply below_drew1) | exact HB.out)) hb); clear HB; have HO103 := n0_; have HB := n1_; clear n0_ n1_; clear hb ho4))
  go_loopg [3, 9] l0.length (fun kq v3 v9 w' => ∃ n : Nat, Aside0 (n + kq = l0.length) ∧ v9 = .int .i64 (n : Int) ∧ Aside0 (Kd.R kBand 90 w' w.heap.size (fun _ => True) v3 (bandsF (l0.take n))) ∧ Aside0 (Below w.heap.size w w'))
  case atStart => exact ⟨0, ⟨by simp⟩, rfl, ⟨by simpa [bandsF] using HO103.out⟩, ⟨HB.out⟩⟩
  case round =>
    obtain ⟨n, HN, rfl, HO, HB⟩ := hrel
    have HR := Aside0.mk (Below.refl wr.heap.size wr)
    by_cases c : n < l0.length
    · have c1 : decide ((n : Int) < (l0.length : Int)) = true := decide_eq_true (by omega)
      have p148 : 0 ≤ (n : Int) := by omega
      have q148 : (n : Int) < (l0.length : Int) := by omega
      obtain ⟨ad148, e148, hx148_0, hx148_1, hx148_2, hx148_3, hx148_4⟩ := at_T59 HR0.out n p148 q148
      rw [Int.toNat_natCast] at hx148_0 hx148_1 hx148_2 hx148_3 hx148_4
      have HT := bandsF_take l0 n c
      obtain ⟨x, hx⟩ : ∃ x, x = rd_T59 l0 (n : Int) := ⟨_, rfl⟩
      rw [← hx] at hx148_0 hx148_1 hx148_2 hx148_3 hx148_4
      have hx' : x = l0.getD n z59 := hx
      rw [← hx'] at HT
      clear hx hx'
      cases e148
      replace hx148_0 := (HB.out.cell (World.block_lt_of_cell? w _ hx148_0)).trans hx148_0
      replace hx148_1 := (HB.out.cell (World.block_lt_of_cell? w _ hx148_1)).trans hx148_1
      replace hx148_2 := (HB.out.cell (World.block_lt_of_cell? w _ hx148_2)).trans hx148_2
      replace hx148_3 := (HB.out.cell (World.block_lt_of_cell? w _ hx148_3)).trans hx148_3
      replace hx148_4 := (HB.out.cell (World.block_lt_of_cell? w _ hx148_4)).trans hx148_4
      replace p148 := eq_true p148
      replace q148 := eq_true q148
      have hk : gk ≠ 0 := by have := HN.out; omega
      obtain ⟨k1, rfl⟩ := Nat.exists_eq_succ_of_ne_zero hk
      clear hk
      have HC := Aside0.mk c
      have HLM : Aside0 (((bandsF (l0.take n)).length + 1) * 8 ≤ 140737488355328) := by
        have h1 := HL.out
        have h2 : (bandsF (l0.take n)).length ≤ (l0.take n).length := List.length_filter_le takes (l0.take n)
        have h3 : (l0.take n).length ≤ n := by rw [List.length_take]; omega
        exact ⟨by omega⟩
      clear c
      by_cases d : 0 < x.f0.f2
      · by_cases e : 0 < x.f0.f3
        · have ht : takes x = true := by simp [takes, d, e]
          rw [if_pos ht] at HT
          have z1 : (x.f0.f2 == 0) = false := beq_eq_false_iff_ne.mpr (by omega)
          have z2 : (!(x.f0.f0 == 0) || (!(x.f0.f1 == 0) || (!(x.f0.f2 == 0) || !(x.f0.f3 == 0)))) = true := by simp [z1]
          replace d := decide_eq_true d
          replace e := decide_eq_true e
          clear ht
          replace HT := Aside0.mk HT
          go_wp2_with (first | ((with_reducible refine gate_dst (N := 5) rfl ?_); refine box_event ?hg (N := 5) ?hd (cs := #[.int .i64 0, .int .i64 0, .int .i64 0, .int .i64 0, .bool false]) (t := 59) ?hr ?_; (case hd => rfl); (case hg => rfl); (case hr => first | (go_simp; done) | (go_simp; rfl)); intro gb149 hg w12 hbox hb; have n0_ := Aside0.mk (below_step (by repeat (first | (with_reducible first | exact HB.out | apply below_alloc | apply pw_below_drewN | apply below_drew1) | exact HB.out)) hb); have n1_ := Aside0.mk (hbox); have n2_ := Aside0.mk ((by rw [hg]; exact (below_size (by repeat (first | (with_reducible first | exact HB.out | apply below_alloc | apply pw_below_drewN | apply below_drew1) | exact HB.out))) : w.heap.size ≤ gb149)); have n3_ := Aside0.mk (below_step (by repeat (first | (with_reducible first | exact HR.out | apply below_alloc | apply pw_below_drewN | apply below_drew1) | exact HR.out)) hb); have n4_ := Aside0.mk ((by rw [hg]; exact (below_size (by repeat (first | (with_reducible first | exact HR.out | apply below_alloc | apply pw_below_drewN | apply below_drew1) | exact HR.out))) : wr.heap.size ≤ gb149)); clear HB; clear HR; have HB := n0_; have BK149 := n1_; have GE149 := n2_; have HR := n3_; have GR149 := n4_; clear n0_ n1_ n2_ n3_ n4_; clear hb hbox hg; have hcz_0 : w12.cell? ⟨gb149, 0, none⟩ = some (.int .i64 0) := (blk_cell BK149.out 0).trans rfl; have hcz_1 : w12.cell? ⟨gb149, 1, none⟩ = some (.int .i64 0) := (blk_cell BK149.out 1).trans rfl; have hcz_2 : w12.cell? ⟨gb149, 2, none⟩ = some (.int .i64 0) := (blk_cell BK149.out 2).trans rfl; have hcz_3 : w12.cell? ⟨gb149, 3, none⟩ = some (.int .i64 0) := (blk_cell BK149.out 3).trans rfl; have hcz_4 : w12.cell? ⟨gb149, 4, none⟩ = some (.bool false) := (blk_cell BK149.out 4).trans rfl; have hfz_0 := blk_frozen BK149.out 0; have hfz_1 := blk_frozen BK149.out 1; have hfz_2 := blk_frozen BK149.out 2; have hfz_3 := blk_frozen BK149.out 3; have hfz_4 := blk_frozen BK149.out 4) | ((with_reducible refine gate_dst (N := 35) rfl ?_); refine box_event ?hg (N := 35) ?hd (cs := bcells x) (t := 92) ?hr ?_; (case hd => rfl); (case hg => rfl); (case hr => first | (go_simp; done) | (go_simp; rfl)); intro gb2 hg w15 hbox hb; have n0_ := Aside0.mk (below_step (by repeat (first | (with_reducible first | exact HB.out | apply below_alloc | apply pw_below_drewN | apply below_drew1 | refine below_set ?_ GE149.out) | exact HB.out)) hb); have n1_ := Aside0.mk (hbox); have n2_ := Aside0.mk ((by rw [hg]; exact (below_size (by repeat (first | (with_reducible first | exact HB.out | apply below_alloc | apply pw_below_drewN | apply below_drew1 | refine below_set ?_ GE149.out) | exact HB.out))) : w.heap.size ≤ gb2)); have n3_ := Aside0.mk (below_step (by repeat (first | (with_reducible first | exact HR.out | apply below_alloc | apply pw_below_drewN | apply below_drew1 | refine below_set ?_ GR149.out) | exact HR.out)) hb); have n4_ := Aside0.mk ((by rw [hg]; exact (below_size (by repeat (first | (with_reducible first | exact HR.out | apply below_alloc | apply pw_below_drewN | apply below_drew1 | refine below_set ?_ GR149.out) | exact HR.out))) : wr.heap.size ≤ gb2)); clear HB; clear HR; have HB := n0_; have BK2 := n1_; have GE2 := n2_; have HR := n3_; have GR2 := n4_; clear n0_ n1_ n2_ n3_ n4_; clear hb hbox hg) | ((with_reducible refine gate_builtin (b := .append) (xs := #[.tmp 29, .tmp 36]) rfl ?_); at_builtin; refine Kd.R_append kBand (w0 := w) w.heap.size rfl (.tmp 29) (.tmp 36) 88 90 (.pointer none) 8 rfl Try.underlying88 infoB rfl (by decide) (by omega) u3 (bandsF (l0.take n)) x [.pointer (some ⟨gb2, 0, none⟩)] (fun _ => True) (fun k => k = gb2) rfl rfl ?aP ?aK ?aF ?aO ?aB ?aS ?aL ?_; (case aP => exact ⟨gb2, rfl, BK2.out, rfl, GE2.out⟩); (case aK => (rintro k rfl; exact ⟨trivial, fun he => by have := Kd.R_lt HO.out k he.symm; have := GR2.out; omega⟩)); (case aF => exact (fun _ _ => trivial)); (case aO => exact Kd.R_below HO.out HR.out); (case aB => exact HB.out); (case aS => exact below_size HB.out); (case aL => exact HLM.out); intro v117 w16 ho hb hg hat; have n0_ := Aside0.mk (hb); have n1_ := Aside0.mk (ho); clear HB; have HB := n0_; have HO1 := n1_; clear n0_ n1_; clear ho hb hg hat))
          go_roundg k1
          case measure => omega
          case rel => exact ⟨n + 1, ⟨by have := HN.out; omega⟩, (congrArg (Value.int .i64) (by have := HC.out; have := HL.out; (unfold wrap64; omega))), ⟨by rw [HT.out]; exact HO1.out⟩, ⟨HB.out⟩⟩
        · have ht : ¬ takes x = true := by simp [takes, d, e]
          rw [if_neg ht] at HT
          replace d := decide_eq_true d
          replace e := decide_eq_false e
          clear ht
          replace HT := Aside0.mk HT
          go_wp2_with (first | ((with_reducible refine gate_dst (N := 5) rfl ?_); refine box_event ?hg (N := 5) ?hd (cs := #[.int .i64 0, .int .i64 0, .int .i64 0, .int .i64 0, .bool false]) (t := 59) ?hr ?_; (case hd => rfl); (case hg => rfl); (case hr => first | (go_simp; done) | (go_simp; rfl)); intro gb149 hg w12 hbox hb; have n0_ := Aside0.mk (below_step (by repeat (first | (with_reducible first | exact HB.out | apply below_alloc | apply pw_below_drewN | apply below_drew1) | exact HB.out)) hb); have n1_ := Aside0.mk (hbox); have n2_ := Aside0.mk ((by rw [hg]; exact (below_size (by repeat (first | (with_reducible first | exact HB.out | apply below_alloc | apply pw_below_drewN | apply below_drew1) | exact HB.out))) : w.heap.size ≤ gb149)); have n3_ := Aside0.mk (below_step (by repeat (first | (with_reducible first | exact HR.out | apply below_alloc | apply pw_below_drewN | apply below_drew1) | exact HR.out)) hb); have n4_ := Aside0.mk ((by rw [hg]; exact (below_size (by repeat (first | (with_reducible first | exact HR.out | apply below_alloc | apply pw_below_drewN | apply below_drew1) | exact HR.out))) : wr.heap.size ≤ gb149)); clear HB; clear HR; have HB := n0_; have BK149 := n1_; have GE149 := n2_; have HR := n3_; have GR149 := n4_; clear n0_ n1_ n2_ n3_ n4_; clear hb hbox hg; have hcz_0 : w12.cell? ⟨gb149, 0, none⟩ = some (.int .i64 0) := (blk_cell BK149.out 0).trans rfl; have hcz_1 : w12.cell? ⟨gb149, 1, none⟩ = some (.int .i64 0) := (blk_cell BK149.out 1).trans rfl; have hcz_2 : w12.cell? ⟨gb149, 2, none⟩ = some (.int .i64 0) := (blk_cell BK149.out 2).trans rfl; have hcz_3 : w12.cell? ⟨gb149, 3, none⟩ = some (.int .i64 0) := (blk_cell BK149.out 3).trans rfl; have hcz_4 : w12.cell? ⟨gb149, 4, none⟩ = some (.bool false) := (blk_cell BK149.out 4).trans rfl; have hfz_0 := blk_frozen BK149.out 0; have hfz_1 := blk_frozen BK149.out 1; have hfz_2 := blk_frozen BK149.out 2; have hfz_3 := blk_frozen BK149.out 3; have hfz_4 := blk_frozen BK149.out 4))
          go_roundg k1
          case measure => omega
          case rel => exact ⟨n + 1, ⟨by have := HN.out; omega⟩, (congrArg (Value.int .i64) (by have := HC.out; have := HL.out; (unfold wrap64; omega))), ⟨by rw [HT.out]; exact Kd.R_below HO.out (by repeat (first | (with_reducible first | exact HR.out | apply below_alloc | apply pw_below_drewN | apply below_drew1 | refine below_set ?_ GR149.out) | exact HR.out))⟩, ⟨(by repeat (first | (with_reducible first | exact HB.out | apply below_alloc | apply pw_below_drewN | apply below_drew1 | refine below_set ?_ GE149.out) | exact HB.out))⟩⟩
      · have ht : ¬ takes x = true := by simp [takes, d]
        rw [if_neg ht] at HT
        replace d := decide_eq_false d
        clear ht
        replace HT := Aside0.mk HT
        go_wp2_with (first | ((with_reducible refine gate_dst (N := 5) rfl ?_); refine box_event ?hg (N := 5) ?hd (cs := #[.int .i64 0, .int .i64 0, .int .i64 0, .int .i64 0, .bool false]) (t := 59) ?hr ?_; (case hd => rfl); (case hg => rfl); (case hr => first | (go_simp; done) | (go_simp; rfl)); intro gb149 hg w12 hbox hb; have n0_ := Aside0.mk (below_step (by repeat (first | (with_reducible first | exact HB.out | apply below_alloc | apply pw_below_drewN | apply below_drew1) | exact HB.out)) hb); have n1_ := Aside0.mk (hbox); have n2_ := Aside0.mk ((by rw [hg]; exact (below_size (by repeat (first | (with_reducible first | exact HB.out | apply below_alloc | apply pw_below_drewN | apply below_drew1) | exact HB.out))) : w.heap.size ≤ gb149)); have n3_ := Aside0.mk (below_step (by repeat (first | (with_reducible first | exact HR.out | apply below_alloc | apply pw_below_drewN | apply below_drew1) | exact HR.out)) hb); have n4_ := Aside0.mk ((by rw [hg]; exact (below_size (by repeat (first | (with_reducible first | exact HR.out | apply below_alloc | apply pw_below_drewN | apply below_drew1) | exact HR.out))) : wr.heap.size ≤ gb149)); clear HB; clear HR; have HB := n0_; have BK149 := n1_; have GE149 := n2_; have HR := n3_; have GR149 := n4_; clear n0_ n1_ n2_ n3_ n4_; clear hb hbox hg; have hcz_0 : w12.cell? ⟨gb149, 0, none⟩ = some (.int .i64 0) := (blk_cell BK149.out 0).trans rfl; have hcz_1 : w12.cell? ⟨gb149, 1, none⟩ = some (.int .i64 0) := (blk_cell BK149.out 1).trans rfl; have hcz_2 : w12.cell? ⟨gb149, 2, none⟩ = some (.int .i64 0) := (blk_cell BK149.out 2).trans rfl; have hcz_3 : w12.cell? ⟨gb149, 3, none⟩ = some (.int .i64 0) := (blk_cell BK149.out 3).trans rfl; have hcz_4 : w12.cell? ⟨gb149, 4, none⟩ = some (.bool false) := (blk_cell BK149.out 4).trans rfl; have hfz_0 := blk_frozen BK149.out 0; have hfz_1 := blk_frozen BK149.out 1; have hfz_2 := blk_frozen BK149.out 2; have hfz_3 := blk_frozen BK149.out 3; have hfz_4 := blk_frozen BK149.out 4))
        go_roundg k1
        case measure => omega
        case rel => exact ⟨n + 1, ⟨by have := HN.out; omega⟩, (congrArg (Value.int .i64) (by have := HC.out; have := HL.out; (unfold wrap64; omega))), ⟨by rw [HT.out]; exact Kd.R_below HO.out (by repeat (first | (with_reducible first | exact HR.out | apply below_alloc | apply pw_below_drewN | apply below_drew1 | refine below_set ?_ GR149.out) | exact HR.out))⟩, ⟨(by repeat (first | (with_reducible first | exact HB.out | apply below_alloc | apply pw_below_drewN | apply below_drew1 | refine below_set ?_ GE149.out) | exact HB.out))⟩⟩
    · have c1 : decide ((n : Int) < (l0.length : Int)) = false := decide_eq_false (by omega)
      have hn : n = l0.length := by have := HN.out; omega
      subst hn
      rw [List.take_length] at HO
      go_wp2
      go_ret
      exact ⟨_, rfl, HO.out, HB.out⟩
def roomL : List S59 → Int → Int → Bool → Int → Int → Int × Int × Bool
  | [], left, right, sm, _, _ => (left, right, sm)
  | b :: bs, left, right, sm, y, h => if reachB b y h = true then (if b.f1 = true then roomL bs left (mn right b.f0.f0) true y h else roomL bs (mx left (wrap64 (b.f0.f0 + b.f0.f2))) right true y h) else roomL bs left right sm y h
set_option maxHeartbeats 8000000 in
set_option maxRecDepth 100000 in
theorem room_calls (A0 : Option Addr) (c0 : Nat) (l0 : List S59) (a1 a2 a3 a4 : Int) (r1 r2 : Int) (r3 : Bool) (w : World) (hr0 : Kd.C k59 w A0 l0.length l0) (hc0 : l0.length ≤ c0) (hl : l0.length ≤ 17592186044415) (h : roomL (bandsF l0) a1 a2 false a3 a4 = (r1, r2, r3)) :
    Calls Try.prog 69 #[.slice A0 l0.length c0, .int .i64 a1, .int .i64 a2, .int .i64 a3, .int .i64 a4] w fun e w' => e = .returned (.tuple #[.int .i64 r1, .int .i64 r2, .bool r3]) ∧ Below w.heap.size w w' := by
  have HR0 := Aside0.mk hr0
  have HC0 := Aside0.mk hc0
  have HL := Aside0.mk hl
  have H := Aside0.mk h
  clear hr0 hc0 hl h
  go_enter Try.func69, Try.ntmps69
  go_wp2_with (first | ((with_reducible refine gate_callee (f := 78) rfl ?_); refine goesL_ (some 17) rfl rfl Try.func78 (by kernel_rfl) rfl #[.slice A0 l0.length c0] rfl (by (try simp only [List.map_toArray, List.map_cons, List.map_nil]); first | done | rfl) ?_; (with_reducible refine (bandsOf_calls A0 c0 l0 w HR0.out HC0.out HL.out).mono ?_); rintro e w8 ⟨v0, rfl, ho, hb⟩; refine ⟨_, rfl, ?_⟩; obtain ⟨A1, c1, rfl, hl1, hr1⟩ := Kd.R_reads ho; have HB := Aside0.mk hb; have HR1 := Aside0.mk hr1; clear hb hr1 ho hl1))
  have HM : Aside0 ((bandsF l0).length ≤ 17592186044415) := ⟨Nat.le_trans (List.length_filter_le _ _) HL.out⟩
  go_loopg [1, 2, 13, 19] (bandsF l0).length (fun kq v1 v2 v13 v19 w' => ∃ (n : Nat) (x1 x2 : Int) (x13 : Bool), v1 = .int .i64 x1 ∧ v2 = .int .i64 x2 ∧ v13 = .bool x13 ∧ v19 = .int .i64 (n : Int) ∧ Aside0 (n + kq = (bandsF l0).length) ∧ Aside0 (roomL ((bandsF l0).drop n) x1 x2 x13 a3 a4 = (r1, r2, r3)) ∧ Aside0 (Below w8.heap.size w8 w'))
  case atStart => exact ⟨0, a1, a2, false, rfl, rfl, rfl, rfl, ⟨by simp⟩, ⟨H.out⟩, ⟨Below.refl _ _⟩⟩
  case round =>
    clear H
    obtain ⟨n, x1, x2, x13, rfl, rfl, rfl, rfl, HN, H, HW⟩ := hrel
    by_cases c : n < (bandsF l0).length
    · have c1 : decide ((n : Int) < ((bandsF l0).length : Int)) = true := decide_eq_true (by omega)
      have p148 : 0 ≤ (n : Int) := by omega
      have q148 : (n : Int) < ((bandsF l0).length : Int) := by omega
      obtain ⟨ad, cs, eA, _, ⟨g, rfl, hg⟩, hcell⟩ := Kd.C_get (Kd.C_below HR1.out HW.out) z59 (n : Int) p148 q148
      have hcc := hcell 0 _ rfl
      rw [Int.toNat_natCast, show kBand.sz = 1 from rfl, Nat.mul_one, Nat.add_zero] at hcc
      clear hcell
      have eb : (bandsF l0).getD (n : Int).toNat z59 = (bandsF l0)[n] := by simp [List.getElem?_eq_getElem c]
      rw [eb] at hg
      have H1 := H.out
      rw [List.drop_eq_getElem_cons c] at H1
      clear H eb
      generalize (bandsF l0)[n] = b at hg H1
      rw [roomL] at H1
      cases eA
      have hw : wrap64 ((n : Int) + 1) = ((n + 1 : Nat) : Int) := by
        have := HM.out
        unfold wrap64
        omega
      replace hw := Aside0.mk hw
      replace p148 := eq_true p148
      replace q148 := eq_true q148
      have hk : gk ≠ 0 := by have := HN.out; omega
      obtain ⟨k1, rfl⟩ := Nat.exists_eq_succ_of_ne_zero hk
      clear hk
      have HC := Aside0.mk c
      clear c
      have hc0 : wr.cell? ⟨g, 0, none⟩ = some (.int .i64 b.f0.f0) := (blk_cell hg 0).trans rfl
      have hc1 : wr.cell? ⟨g, 1, none⟩ = some (.int .i64 b.f0.f1) := (blk_cell hg 1).trans rfl
      have hc2 : wr.cell? ⟨g, 2, none⟩ = some (.int .i64 b.f0.f2) := (blk_cell hg 2).trans rfl
      have hc3 : wr.cell? ⟨g, 3, none⟩ = some (.int .i64 b.f0.f3) := (blk_cell hg 3).trans rfl
      have hc4 : wr.cell? ⟨g, 4, none⟩ = some (.bool b.f1) := (blk_cell hg 4).trans rfl
      have HG := Aside0.mk hg
      clear hg
      obtain ⟨t, ht⟩ : ∃ t, t = reachB b a3 a4 := ⟨_, rfl⟩
      obtain ⟨s, hs⟩ : ∃ s, s = b.f1 := ⟨_, rfl⟩
      rw [← ht, ← hs] at H1
      rw [← hs] at hc4
      clear hs
      have HT := Aside0.mk ht
      clear ht
      cases t
      · replace H1 := Aside0.mk H1
        go_wp2_with (first | ((with_reducible refine gate_callee (f := 79) rfl ?_); refine goesL_ (some 26) rfl rfl Try.func79 (by kernel_rfl) rfl #[.pointer (some ⟨g, 0, none⟩), .int .i64 a3, .int .i64 a4] rfl (by (try simp only [List.map_toArray, List.map_cons, List.map_nil]); first | done | rfl) ?_; (with_reducible refine (reaches_calls b a3 a4 g wr HG.out).mono ?_); rw [← HT.out]; rintro e w9 ⟨rfl, ⟨nd, rfl⟩⟩; refine ⟨_, rfl, ?_⟩))
        go_roundg k1
        case measure => omega
        case rel => exact ⟨n + 1, x1, x2, x13, rfl, rfl, rfl, (congrArg (Value.int .i64) hw.out), ⟨by have := HN.out; omega⟩, ⟨H1.out⟩, ⟨pw_below_drewN HW.out _⟩⟩
      · cases s
        · replace H1 := Aside0.mk H1
          obtain ⟨j, hj⟩ : ∃ j, mx x1 (wrap64 (b.f0.f0 + b.f0.f2)) = j := ⟨_, rfl⟩
          have hj_ : (if x1 < (wrap64 (b.f0.f0 + b.f0.f2)) then (wrap64 (b.f0.f0 + b.f0.f2)) else x1) = j := hj
          go_wp2_with (first | ((with_reducible refine gate_callee (f := 79) rfl ?_); refine goesL_ (some 26) rfl rfl Try.func79 (by kernel_rfl) rfl #[.pointer (some ⟨g, 0, none⟩), .int .i64 a3, .int .i64 a4] rfl (by (try simp only [List.map_toArray, List.map_cons, List.map_nil]); first | done | rfl) ?_; (with_reducible refine (reaches_calls b a3 a4 g wr HG.out).mono ?_); rw [← HT.out]; rintro e w9 ⟨rfl, ⟨nd, rfl⟩⟩; refine ⟨_, rfl, ?_⟩))
          repeat (go_quiet (fail); try go_wp2)
          go_roundg k1
          case measure => omega
          case rel => exact ⟨n + 1, j, x2, true, (by first | rfl | (simp [hj_]; done)), rfl, rfl, (congrArg (Value.int .i64) hw.out), ⟨by have := HN.out; omega⟩, ⟨by rw [← hj]; exact H1.out⟩, ⟨by repeat (first | exact HW.out | apply pw_below_drewN | apply below_drew1)⟩⟩
        · replace H1 := Aside0.mk H1
          obtain ⟨j, hj⟩ : ∃ j, mn x2 b.f0.f0 = j := ⟨_, rfl⟩
          have hj_ : (if b.f0.f0 < x2 then b.f0.f0 else x2) = j := hj
          go_wp2_with (first | ((with_reducible refine gate_callee (f := 79) rfl ?_); refine goesL_ (some 26) rfl rfl Try.func79 (by kernel_rfl) rfl #[.pointer (some ⟨g, 0, none⟩), .int .i64 a3, .int .i64 a4] rfl (by (try simp only [List.map_toArray, List.map_cons, List.map_nil]); first | done | rfl) ?_; (with_reducible refine (reaches_calls b a3 a4 g wr HG.out).mono ?_); rw [← HT.out]; rintro e w9 ⟨rfl, ⟨nd, rfl⟩⟩; refine ⟨_, rfl, ?_⟩))
          go_roundg k1
          case measure => omega
          case rel => exact ⟨n + 1, x1, j, true, rfl, (by first | rfl | (simp [hj_]; done)), rfl, (congrArg (Value.int .i64) hw.out), ⟨by have := HN.out; omega⟩, ⟨by rw [← hj]; exact H1.out⟩, ⟨by repeat (first | exact HW.out | apply pw_below_drewN | apply below_drew1)⟩⟩
    · have c1 : decide ((n : Int) < ((bandsF l0).length : Int)) = false := decide_eq_false (by omega)
      have hn : n = (bandsF l0).length := by have := HN.out; omega
      have H1 := H.out
      rw [List.drop_eq_nil_of_le (by omega), roomL] at H1
      obtain ⟨rfl, h2⟩ := Prod.mk.inj H1
      obtain ⟨rfl, rfl⟩ := Prod.mk.inj h2
      clear H1 h2 H
      go_wp2
      go_ret3
      exact ⟨rfl, below_step HB.out HW.out⟩
def impl_room.f (l0 : List S59) (a1 a2 a3 a4 : Int) : Option (Int × Int × Bool) := if l0.length ≤ 17592186044415 then some (roomL (bandsF l0) a1 a2 false a3 a4) else none
theorem impl_room.calls (A0 : Option Addr) (c0 : Nat) (l0 : List S59) (a1 a2 a3 a4 : Int) (r1 r2 : Int) (r3 : Bool) (w : World) (hr0 : Kd.C k59 w A0 l0.length l0) (hc0 : l0.length ≤ c0) (h : impl_room.f l0 a1 a2 a3 a4 = some (r1, r2, r3)) :
    Calls Try.prog 69 #[.slice A0 l0.length c0, .int .i64 a1, .int .i64 a2, .int .i64 a3, .int .i64 a4] w fun e w' => e = .returned (.tuple #[.int .i64 r1, .int .i64 r2, .bool r3]) ∧ Below w.heap.size w w' := by
  unfold impl_room.f at h
  by_cases c : l0.length ≤ 17592186044415
  · rw [if_pos c] at h
    exact room_calls A0 c0 l0 a1 a2 a3 a4 r1 r2 r3 w hr0 hc0 c (Option.some.inj h)
  · rw [if_neg c] at h
    cases h

/-! ### impl_Room: function 43 -/
def impl_Room.f (k : Nat) (l0 : List (S59)) (a1 : Int) (a2 : Int) (a3 : Int) (a4 : Int) : Option (Int × Int) := (impl_FloatsOk.f k l0).bind fun t153 => (if t153 = true then ((impl_inUnits.f a3).bind fun t154 => (if t154 = true then ((impl_nonNegative.f a4).bind fun t155 => (if t155 = true then ((impl_room.f l0 a1 a2 a3 a4).bind fun bt156 => (some (bt156.1, bt156.2.1))) else (some (a1, a2)))) else (some (a1, a2)))) else (some (a1, a2)))
theorem impl_Room.mono : ∀ a0 a1 a2 a3 a4 k, LeO (impl_Room.f k a0 a1 a2 a3 a4) (impl_Room.f (k + 1) a0 a1 a2 a3 a4) := by
  intro a0 a1 a2 a3 a4 k
  unfold impl_Room.f
  repeat' first
      | (with_reducible exact impl_FloatsOk.mono _ _)
      | (with_reducible exact LeO.refl _)
      | (with_reducible exact LeO.none _)
      | (with_reducible refine LeO.ite ?_ ?_)
      | (with_reducible refine LeO.bind ?_ (fun _ => ?_))
      | exact impl_FloatsOk.mono _ _
      | exact LeO.none _
      | refine LeO.ite ?_ ?_
      | refine LeO.bind ?_ (fun _ => ?_)
set_option maxHeartbeats 8000000 in
set_option maxRecDepth 100000 in
theorem impl_Room.calls (k : Nat) (A0 : Option Addr) (c0 : Nat) (l0 : List (S59)) (a1 : Int) (a2 : Int) (a3 : Int) (a4 : Int) (r1 : Int) (r2 : Int) (w : World) (hr0 : Kd.C k59 w A0 l0.length l0) (hc0 : l0.length ≤ c0) (h : impl_Room.f k l0 a1 a2 a3 a4 = some (r1, r2)) :
    Calls Try.prog 43 #[.slice A0 l0.length c0, .int .i64 a1, .int .i64 a2, .int .i64 a3, .int .i64 a4] w fun e w' => e = .returned (.tuple #[.int .i64 r1, .int .i64 r2]) ∧ Below w.heap.size w w' := by
  have HR0 := Aside0.mk hr0
  have HC0 := Aside0.mk hc0
  clear hr0 hc0
  have HB := Aside0.mk (Below.refl w.heap.size w)
  have H : ((impl_FloatsOk.f k l0).bind fun t153 => (if t153 = true then ((impl_inUnits.f a3).bind fun t154 => (if t154 = true then ((impl_nonNegative.f a4).bind fun t155 => (if t155 = true then ((impl_room.f l0 a1 a2 a3 a4).bind fun bt156 => (some (bt156.1, bt156.2.1))) else (some (a1, a2)))) else (some (a1, a2)))) else (some (a1, a2)))) = some (r1, r2) := h
  clear h
  replace H := Option.bind_eq_some_iff.mp H
  obtain ⟨t153, A60, H⟩ := H
  replace H : (if t153 = true then ((impl_inUnits.f a3).bind fun t154 => (if t154 = true then ((impl_nonNegative.f a4).bind fun t155 => (if t155 = true then ((impl_room.f l0 a1 a2 a3 a4).bind fun bt156 => (some (bt156.1, bt156.2.1))) else (some (a1, a2)))) else (some (a1, a2)))) else (some (a1, a2))) = some (r1, r2) := H
  have A6 := Aside0.mk A60
  clear A60
  by_cases c7 : t153 = true
  · subst c7
    have H1 : ((impl_inUnits.f a3).bind fun t154 => (if t154 = true then ((impl_nonNegative.f a4).bind fun t155 => (if t155 = true then ((impl_room.f l0 a1 a2 a3 a4).bind fun bt156 => (some (bt156.1, bt156.2.1))) else (some (a1, a2)))) else (some (a1, a2)))) = some (r1, r2) := by rw [if_pos rfl] at H; exact H
    clear H
    have H := H1
    clear H1
    replace H := Option.bind_eq_some_iff.mp H
    obtain ⟨t154, A80, H⟩ := H
    replace H : (if t154 = true then ((impl_nonNegative.f a4).bind fun t155 => (if t155 = true then ((impl_room.f l0 a1 a2 a3 a4).bind fun bt156 => (some (bt156.1, bt156.2.1))) else (some (a1, a2)))) else (some (a1, a2))) = some (r1, r2) := H
    have A8 := Aside0.mk A80
    clear A80
    by_cases c9 : t154 = true
    · subst c9
      have H1 : ((impl_nonNegative.f a4).bind fun t155 => (if t155 = true then ((impl_room.f l0 a1 a2 a3 a4).bind fun bt156 => (some (bt156.1, bt156.2.1))) else (some (a1, a2)))) = some (r1, r2) := by rw [if_pos rfl] at H; exact H
      clear H
      have H := H1
      clear H1
      replace H := Option.bind_eq_some_iff.mp H
      obtain ⟨t155, A100, H⟩ := H
      replace H : (if t155 = true then ((impl_room.f l0 a1 a2 a3 a4).bind fun bt156 => (some (bt156.1, bt156.2.1))) else (some (a1, a2))) = some (r1, r2) := H
      have A10 := Aside0.mk A100
      clear A100
      by_cases c11 : t155 = true
      · subst c11
        have H1 : ((impl_room.f l0 a1 a2 a3 a4).bind fun bt156 => (some (bt156.1, bt156.2.1))) = some (r1, r2) := by rw [if_pos rfl] at H; exact H
        clear H
        have H := H1
        clear H1
        replace H := Option.bind_eq_some_iff.mp H
        obtain ⟨⟨t156, t157, t158⟩, A120, H⟩ := H
        replace H : (some (t156, t157)) = some (r1, r2) := H
        have A12 := Aside0.mk A120
        clear A120
        simp only [Option.some.injEq, Prod.mk.injEq] at H
        obtain ⟨rfl, rfl⟩ := H
        go_enter Try.func43, Try.ntmps43
        go_wp2_with (first | ((with_reducible refine gate_callee (f := 30) rfl ?_); refine goesL_ (some 16) rfl rfl Try.func30 (by kernel_rfl) rfl #[.slice A0 l0.length c0] rfl (by (try simp only [List.map_toArray, List.map_cons, List.map_nil]); first | done | rfl | (simp only [List.length_drop, List.length_take]; rfl)) ?_; (with_reducible refine (impl_FloatsOk.calls k _ _ l0 true _ ?side1 ?side2 A6.out).mono ?_); (case side1 => repeat (first | exact HR0.out | (with_reducible refine Kd.C_alloc ?_ _) | (with_reducible refine Kd.C_drewN ?_ _) | (with_reducible refine Kd.C_drew ?_))); (case side2 => exact HC0.out); rintro e w13 ⟨rfl, hb⟩; refine ⟨_, rfl, ?_⟩; have n0_ := Aside0.mk (below_step (by repeat (first | (with_reducible first | exact HB.out | apply below_alloc | apply pw_below_drewN | apply below_drew1) | exact HB.out)) hb); clear HB; have HB := n0_; clear n0_; (try clear hb); (try clear hb2); (try clear hk); (try clear hi)) | (go_at_call 57; (with_reducible refine (impl_inUnits.calls a3 true _ A8.out).mono ?_); rintro e w' ⟨rfl, ⟨nd, rfl⟩⟩) | (go_at_call 58; (with_reducible refine (impl_nonNegative.calls a4 true _ A10.out).mono ?_); rintro e w' ⟨rfl, ⟨nd, rfl⟩⟩) | ((with_reducible refine gate_callee (f := 69) rfl ?_); refine goesL_ (some 36) rfl rfl Try.func69 (by kernel_rfl) rfl #[.slice A0 l0.length c0, .int .i64 a1, .int .i64 a2, .int .i64 a3, .int .i64 a4] rfl (by (try simp only [List.map_toArray, List.map_cons, List.map_nil]); first | done | rfl | (simp only [List.length_drop, List.length_take]; rfl)) ?_; (with_reducible refine (impl_room.calls _ _ l0 a1 a2 a3 a4 t156 t157 t158 _ ?side1 ?side2 A12.out).mono ?_); (case side1 => repeat (first | exact (Kd.C_below HR0.out (by repeat (first | (with_reducible first | exact HB.out | apply below_alloc | apply pw_below_drewN | apply below_drew1) | exact HB.out))) | (with_reducible refine Kd.C_alloc ?_ _) | (with_reducible refine Kd.C_drewN ?_ _) | (with_reducible refine Kd.C_drew ?_))); (case side2 => exact HC0.out); rintro e w14 ⟨rfl, hb⟩; refine ⟨_, rfl, ?_⟩; have n0_ := Aside0.mk (below_step (by repeat (first | (with_reducible first | exact HB.out | apply below_alloc | apply pw_below_drewN | apply below_drew1) | exact HB.out)) hb); clear HB; have HB := n0_; clear n0_; (try clear hb); (try clear hb2); (try clear hk); (try clear hi)))
        go_ret2
        exact ⟨by first | rfl | (simp [errW_none, errW_some] <;> rfl) | (simp [*, errW_none, errW_some] <;> rfl), by repeat (first | (with_reducible first | exact HB.out | apply below_alloc | apply pw_below_drewN | apply below_drew1) | exact HB.out)⟩
      · replace c11 := Bool.eq_false_iff.mpr c11
        subst c11
        have H1 : (some (a1, a2)) = some (r1, r2) := by rw [if_neg (show ¬ (false = true) by decide)] at H; exact H
        clear H
        have H := H1
        clear H1
        simp only [Option.some.injEq, Prod.mk.injEq] at H
        obtain ⟨rfl, rfl⟩ := H
        go_enter Try.func43, Try.ntmps43
        go_wp2_with (first | ((with_reducible refine gate_callee (f := 30) rfl ?_); refine goesL_ (some 16) rfl rfl Try.func30 (by kernel_rfl) rfl #[.slice A0 l0.length c0] rfl (by (try simp only [List.map_toArray, List.map_cons, List.map_nil]); first | done | rfl | (simp only [List.length_drop, List.length_take]; rfl)) ?_; (with_reducible refine (impl_FloatsOk.calls k _ _ l0 true _ ?side1 ?side2 A6.out).mono ?_); (case side1 => repeat (first | exact HR0.out | (with_reducible refine Kd.C_alloc ?_ _) | (with_reducible refine Kd.C_drewN ?_ _) | (with_reducible refine Kd.C_drew ?_))); (case side2 => exact HC0.out); rintro e w15 ⟨rfl, hb⟩; refine ⟨_, rfl, ?_⟩; have n0_ := Aside0.mk (below_step (by repeat (first | (with_reducible first | exact HB.out | apply below_alloc | apply pw_below_drewN | apply below_drew1) | exact HB.out)) hb); clear HB; have HB := n0_; clear n0_; (try clear hb); (try clear hb2); (try clear hk); (try clear hi)) | (go_at_call 57; (with_reducible refine (impl_inUnits.calls a3 true _ A8.out).mono ?_); rintro e w' ⟨rfl, ⟨nd, rfl⟩⟩) | (go_at_call 58; (with_reducible refine (impl_nonNegative.calls a4 false _ A10.out).mono ?_); rintro e w' ⟨rfl, ⟨nd, rfl⟩⟩))
        go_ret2
        exact ⟨by first | rfl | (simp [errW_none, errW_some] <;> rfl) | (simp [*, errW_none, errW_some] <;> rfl), by repeat (first | (with_reducible first | exact HB.out | apply below_alloc | apply pw_below_drewN | apply below_drew1) | exact HB.out)⟩
    · replace c9 := Bool.eq_false_iff.mpr c9
      subst c9
      have H1 : (some (a1, a2)) = some (r1, r2) := by rw [if_neg (show ¬ (false = true) by decide)] at H; exact H
      clear H
      have H := H1
      clear H1
      simp only [Option.some.injEq, Prod.mk.injEq] at H
      obtain ⟨rfl, rfl⟩ := H
      go_enter Try.func43, Try.ntmps43
      go_wp2_with (first | ((with_reducible refine gate_callee (f := 30) rfl ?_); refine goesL_ (some 16) rfl rfl Try.func30 (by kernel_rfl) rfl #[.slice A0 l0.length c0] rfl (by (try simp only [List.map_toArray, List.map_cons, List.map_nil]); first | done | rfl | (simp only [List.length_drop, List.length_take]; rfl)) ?_; (with_reducible refine (impl_FloatsOk.calls k _ _ l0 true _ ?side1 ?side2 A6.out).mono ?_); (case side1 => repeat (first | exact HR0.out | (with_reducible refine Kd.C_alloc ?_ _) | (with_reducible refine Kd.C_drewN ?_ _) | (with_reducible refine Kd.C_drew ?_))); (case side2 => exact HC0.out); rintro e w16 ⟨rfl, hb⟩; refine ⟨_, rfl, ?_⟩; have n0_ := Aside0.mk (below_step (by repeat (first | (with_reducible first | exact HB.out | apply below_alloc | apply pw_below_drewN | apply below_drew1) | exact HB.out)) hb); clear HB; have HB := n0_; clear n0_; (try clear hb); (try clear hb2); (try clear hk); (try clear hi)) | (go_at_call 57; (with_reducible refine (impl_inUnits.calls a3 false _ A8.out).mono ?_); rintro e w' ⟨rfl, ⟨nd, rfl⟩⟩))
      go_ret2
      exact ⟨by first | rfl | (simp [errW_none, errW_some] <;> rfl) | (simp [*, errW_none, errW_some] <;> rfl), by repeat (first | (with_reducible first | exact HB.out | apply below_alloc | apply pw_below_drewN | apply below_drew1) | exact HB.out)⟩
  · replace c7 := Bool.eq_false_iff.mpr c7
    subst c7
    have H1 : (some (a1, a2)) = some (r1, r2) := by rw [if_neg (show ¬ (false = true) by decide)] at H; exact H
    clear H
    have H := H1
    clear H1
    simp only [Option.some.injEq, Prod.mk.injEq] at H
    obtain ⟨rfl, rfl⟩ := H
    go_enter Try.func43, Try.ntmps43
    go_wp2_with (first | ((with_reducible refine gate_callee (f := 30) rfl ?_); refine goesL_ (some 16) rfl rfl Try.func30 (by kernel_rfl) rfl #[.slice A0 l0.length c0] rfl (by (try simp only [List.map_toArray, List.map_cons, List.map_nil]); first | done | rfl | (simp only [List.length_drop, List.length_take]; rfl)) ?_; (with_reducible refine (impl_FloatsOk.calls k _ _ l0 false _ ?side1 ?side2 A6.out).mono ?_); (case side1 => repeat (first | exact HR0.out | (with_reducible refine Kd.C_alloc ?_ _) | (with_reducible refine Kd.C_drewN ?_ _) | (with_reducible refine Kd.C_drew ?_))); (case side2 => exact HC0.out); rintro e w17 ⟨rfl, hb⟩; refine ⟨_, rfl, ?_⟩; have n0_ := Aside0.mk (below_step (by repeat (first | (with_reducible first | exact HB.out | apply below_alloc | apply pw_below_drewN | apply below_drew1) | exact HB.out)) hb); clear HB; have HB := n0_; clear n0_; (try clear hb); (try clear hb2); (try clear hk); (try clear hi)))
    go_ret2
    exact ⟨by first | rfl | (simp [errW_none, errW_some] <;> rfl) | (simp [*, errW_none, errW_some] <;> rfl), by repeat (first | (with_reducible first | exact HB.out | apply below_alloc | apply pw_below_drewN | apply below_drew1) | exact HB.out)⟩

/-! ### laws_FnExactRoom: function 13 -/
def laws_FnExactRoom.j0 : Nat → List (S63) → List (S59) → Bool → Option (Bool)
  | 0, _, _, _ => none
  | k + 1, x0, x14, x50 => if x50 = true then (some false) else ((laws_toFloatBoxS.f k x0).bind fun t170 => ((laws_eqFloatBoxS.f k x14 t170).bind fun t173 => (if t173 = true then (some true) else (some false))))
def laws_FnExactRoom.f (k : Nat) (l0 : List (S63)) (a1 : Int) (a2 : Int) (a3 : Int) (a4 : Int) : Option (Bool) := (laws_szFloatBoxS.f l0 1048576).bind fun t159 => (if t159 < 0 then (some true) else ((laws_toFloatBoxS.f k l0).bind fun t160 => ((spec_Room.f k t160 a1 a2 a3 a4).bind fun bt163 => ((laws_toFloatBoxS.f k l0).bind fun t165 => ((impl_Room.f k t165 a1 a2 a3 a4).bind fun bt168 => (if bt168.1 = bt163.1 then (laws_FnExactRoom.j0 k l0 t165 (bt168.2 != bt163.2)) else (laws_FnExactRoom.j0 k l0 t165 true)))))))
theorem laws_FnExactRoom.mono_l : ∀ k, (∀ y0 y1 y2, LeO (laws_FnExactRoom.j0 k y0 y1 y2) (laws_FnExactRoom.j0 (k + 1) y0 y1 y2))
  | 0 => fun _ _ _ r h => by simp [laws_FnExactRoom.j0] at h
  | k + 1 => by
    have ih0 := laws_FnExactRoom.mono_l k
    · intro y0 y1 y2
      unfold laws_FnExactRoom.j0
      repeat' first
      | (with_reducible exact ih0 _ _ _)
      | (with_reducible exact impl_Room.mono _ _ _ _ _ _)
      | (with_reducible exact laws_eqFloatBoxS.mono _ _ _)
      | (with_reducible exact laws_toFloatBoxS.mono _ _)
      | (with_reducible exact spec_Room.mono _ _ _ _ _ _)
      | (with_reducible exact LeO.refl _)
      | (with_reducible exact LeO.none _)
      | (with_reducible refine LeO.ite ?_ ?_)
      | (with_reducible refine LeO.bind ?_ (fun _ => ?_))
      | exact ih0 _ _ _
      | exact impl_Room.mono _ _ _ _ _ _
      | exact laws_eqFloatBoxS.mono _ _ _
      | exact laws_toFloatBoxS.mono _ _
      | exact spec_Room.mono _ _ _ _ _ _
      | exact LeO.none _
      | refine LeO.ite ?_ ?_
      | refine LeO.bind ?_ (fun _ => ?_)
theorem laws_FnExactRoom.mono : ∀ a0 a1 a2 a3 a4 k, LeO (laws_FnExactRoom.f k a0 a1 a2 a3 a4) (laws_FnExactRoom.f (k + 1) a0 a1 a2 a3 a4) := by
  intro a0 a1 a2 a3 a4 k
  have ih0 := laws_FnExactRoom.mono_l k
  unfold laws_FnExactRoom.f
  repeat' first
      | (with_reducible exact ih0 _ _ _)
      | (with_reducible exact impl_Room.mono _ _ _ _ _ _)
      | (with_reducible exact laws_eqFloatBoxS.mono _ _ _)
      | (with_reducible exact laws_toFloatBoxS.mono _ _)
      | (with_reducible exact spec_Room.mono _ _ _ _ _ _)
      | (with_reducible exact LeO.refl _)
      | (with_reducible exact LeO.none _)
      | (with_reducible refine LeO.ite ?_ ?_)
      | (with_reducible refine LeO.bind ?_ (fun _ => ?_))
      | exact ih0 _ _ _
      | exact impl_Room.mono _ _ _ _ _ _
      | exact laws_eqFloatBoxS.mono _ _ _
      | exact laws_toFloatBoxS.mono _ _
      | exact spec_Room.mono _ _ _ _ _ _
      | exact LeO.none _
      | refine LeO.ite ?_ ?_
      | refine LeO.bind ?_ (fun _ => ?_)
set_option maxHeartbeats 8000000 in
set_option maxRecDepth 100000 in
theorem laws_FnExactRoom.calls (k : Nat) (A0 : Option Addr) (c0 : Nat) (l0 : List (S63)) (a1 : Int) (a2 : Int) (a3 : Int) (a4 : Int) (r : Bool) (w : World) (hr0 : Kd.C k63 w A0 l0.length l0) (hc0 : l0.length ≤ c0) (h : laws_FnExactRoom.f k l0 a1 a2 a3 a4 = some r) :
    Calls Try.prog 13 #[.slice A0 l0.length c0, .int .i64 a1, .int .i64 a2, .int .i64 a3, .int .i64 a4] w fun e w' => e = .returned (.bool r) ∧ Below w.heap.size w w' := by
  have HR0 := Aside0.mk hr0
  have HC0 := Aside0.mk hc0
  clear hr0 hc0
  have HB := Aside0.mk (Below.refl w.heap.size w)
  have H : ((laws_szFloatBoxS.f l0 1048576).bind fun t159 => (if t159 < 0 then (some true) else ((laws_toFloatBoxS.f k l0).bind fun t160 => ((spec_Room.f k t160 a1 a2 a3 a4).bind fun bt163 => ((laws_toFloatBoxS.f k l0).bind fun t165 => ((impl_Room.f k t165 a1 a2 a3 a4).bind fun bt168 => (if bt168.1 = bt163.1 then (laws_FnExactRoom.j0 k l0 t165 (bt168.2 != bt163.2)) else (laws_FnExactRoom.j0 k l0 t165 true)))))))) = some r := h
  clear h
  replace H := Option.bind_eq_some_iff.mp H
  obtain ⟨t159, A60, H⟩ := H
  replace H : (if t159 < 0 then (some true) else ((laws_toFloatBoxS.f k l0).bind fun t160 => ((spec_Room.f k t160 a1 a2 a3 a4).bind fun bt163 => ((laws_toFloatBoxS.f k l0).bind fun t165 => ((impl_Room.f k t165 a1 a2 a3 a4).bind fun bt168 => (if bt168.1 = bt163.1 then (laws_FnExactRoom.j0 k l0 t165 (bt168.2 != bt163.2)) else (laws_FnExactRoom.j0 k l0 t165 true))))))) = some r := H
  have A6 := Aside0.mk A60
  clear A60
  by_cases c7 : t159 < 0
  · rw [if_pos c7] at H
    have c7b0 : decide (t159 < 0) = true := decide_eq_true c7
    clear c7
    obtain rfl := Option.some.inj H
    go_enter Try.func13, Try.ntmps13
    go_wp2_with (first | ((with_reducible refine gate_callee (f := 27) rfl ?_); refine goesL_ (some 19) rfl rfl Try.func27 (by kernel_rfl) rfl #[.slice A0 l0.length c0, .int .i64 1048576] rfl (by (try simp only [List.map_toArray, List.map_cons, List.map_nil]); first | done | rfl | (simp only [List.length_drop, List.length_take]; rfl)) ?_; (with_reducible refine (laws_szFloatBoxS.calls _ _ l0 1048576 t159 _ ?side1 ?side2 A6.out).mono ?_); (case side1 => repeat (first | exact HR0.out | (with_reducible refine Kd.C_alloc ?_ _) | (with_reducible refine Kd.C_drewN ?_ _) | (with_reducible refine Kd.C_drew ?_))); (case side2 => exact HC0.out); rintro e w' ⟨rfl, ⟨nd, rfl⟩⟩; refine ⟨_, rfl, ?_⟩))
    go_ret
    exact ⟨by first | rfl | (simp [errW_none, errW_some] <;> rfl) | (simp [*, errW_none, errW_some] <;> rfl), by repeat (first | (with_reducible first | exact HB.out | apply below_alloc | apply pw_below_drewN | apply below_drew1) | exact HB.out)⟩
  · rw [if_neg c7] at H
    have c7b0 : decide (t159 < 0) = false := decide_eq_false c7
    clear c7
    replace H := Option.bind_eq_some_iff.mp H
    obtain ⟨t160, A80, H⟩ := H
    replace H : ((spec_Room.f k t160 a1 a2 a3 a4).bind fun bt163 => ((laws_toFloatBoxS.f k l0).bind fun t165 => ((impl_Room.f k t165 a1 a2 a3 a4).bind fun bt168 => (if bt168.1 = bt163.1 then (laws_FnExactRoom.j0 k l0 t165 (bt168.2 != bt163.2)) else (laws_FnExactRoom.j0 k l0 t165 true))))) = some r := H
    have A8 := Aside0.mk A80
    clear A80
    replace H := Option.bind_eq_some_iff.mp H
    obtain ⟨⟨t163, t164⟩, A90, H⟩ := H
    replace H : ((laws_toFloatBoxS.f k l0).bind fun t165 => ((impl_Room.f k t165 a1 a2 a3 a4).bind fun bt168 => (if bt168.1 = t163 then (laws_FnExactRoom.j0 k l0 t165 (bt168.2 != t164)) else (laws_FnExactRoom.j0 k l0 t165 true)))) = some r := H
    have A9 := Aside0.mk A90
    clear A90
    replace H := Option.bind_eq_some_iff.mp H
    obtain ⟨t165, A100, H⟩ := H
    replace H : ((impl_Room.f k t165 a1 a2 a3 a4).bind fun bt168 => (if bt168.1 = t163 then (laws_FnExactRoom.j0 k l0 t165 (bt168.2 != t164)) else (laws_FnExactRoom.j0 k l0 t165 true))) = some r := H
    have A10 := Aside0.mk A100
    clear A100
    replace H := Option.bind_eq_some_iff.mp H
    obtain ⟨⟨t168, t169⟩, A110, H⟩ := H
    replace H : (if t168 = t163 then (laws_FnExactRoom.j0 k l0 t165 (t169 != t164)) else (laws_FnExactRoom.j0 k l0 t165 true)) = some r := H
    have A11 := Aside0.mk A110
    clear A110
    have HC12 := Aside0.mk H
    clear H
    go_enter Try.func13, Try.ntmps13
    go_upto_region 8 with (first | ((with_reducible refine gate_callee (f := 27) rfl ?_); refine goesL_ (some 19) rfl rfl Try.func27 (by kernel_rfl) rfl #[.slice A0 l0.length c0, .int .i64 1048576] rfl (by (try simp only [List.map_toArray, List.map_cons, List.map_nil]); first | done | rfl | (simp only [List.length_drop, List.length_take]; rfl)) ?_; (with_reducible refine (laws_szFloatBoxS.calls _ _ l0 1048576 t159 _ ?side1 ?side2 A6.out).mono ?_); (case side1 => repeat (first | exact HR0.out | (with_reducible refine Kd.C_alloc ?_ _) | (with_reducible refine Kd.C_drewN ?_ _) | (with_reducible refine Kd.C_drew ?_))); (case side2 => exact HC0.out); rintro e w' ⟨rfl, ⟨nd, rfl⟩⟩; refine ⟨_, rfl, ?_⟩) | ((with_reducible refine gate_callee (f := 29) rfl ?_); refine goesL_ (some 24) rfl rfl Try.func29 (by kernel_rfl) rfl #[.slice A0 l0.length c0] rfl (by (try simp only [List.map_toArray, List.map_cons, List.map_nil]); first | done | rfl | (simp only [List.length_drop, List.length_take]; rfl)) ?_; (with_reducible refine (laws_toFloatBoxS.calls k _ _ l0 t160 _ ?side1 ?side2 A8.out).mono ?_); (case side1 => repeat (first | exact HR0.out | (with_reducible refine Kd.C_alloc ?_ _) | (with_reducible refine Kd.C_drewN ?_ _) | (with_reducible refine Kd.C_drew ?_))); (case side2 => exact HC0.out); rintro e w13 ⟨v161, rfl, ho0, hb⟩; refine ⟨_, rfl, ?_⟩; have n0_ := Aside0.mk (Kd.R_lower ho0 (below_size (by repeat (first | (with_reducible first | exact HB.out | apply below_alloc | apply pw_below_drewN | apply below_drew1) | exact HB.out)))); have n1_ := Aside0.mk (below_step (by repeat (first | (with_reducible first | exact HB.out | apply below_alloc | apply pw_below_drewN | apply below_drew1) | exact HB.out)) hb); clear HB; have HO162 := n0_; have HB := n1_; clear n0_ n1_; (try clear hb); (try clear hb2); (try clear hk); (try clear hi); (try clear ho0); obtain ⟨Ao14, co14, eo14⟩ := Kd.R_slice HO162.out; subst eo14) | ((with_reducible refine gate_callee (f := 42) rfl ?_); refine goesL_ (some 29) rfl rfl Try.func42 (by kernel_rfl) rfl #[.slice Ao14 t160.length co14, .int .i64 a1, .int .i64 a2, .int .i64 a3, .int .i64 a4] rfl (by (try simp only [List.map_toArray, List.map_cons, List.map_nil]); first | done | rfl | (simp only [List.length_drop, List.length_take]; rfl)) ?_; (with_reducible refine (spec_Room.calls k _ _ t160 a1 a2 a3 a4 t163 t164 _ ?side1 ?side2 A9.out).mono ?_); (case side1 => repeat (first | exact (Kd.R_reads' HO162.out).2.2 | (with_reducible refine Kd.C_alloc ?_ _) | (with_reducible refine Kd.C_drewN ?_ _) | (with_reducible refine Kd.C_drew ?_))); (case side2 => exact (Kd.R_reads' HO162.out).2.1); rintro e w15 ⟨rfl, hb⟩; refine ⟨_, rfl, ?_⟩; have n0_ := Aside0.mk (Kd.R_below (by (with_reducible repeat (first | apply Kd.R_alloc | apply Kd.R_drewN | apply Kd.R_drew)); exact HO162.out) hb); have n1_ := Aside0.mk (below_step (by repeat (first | (with_reducible first | exact HB.out | apply below_alloc | apply pw_below_drewN | apply below_drew1) | exact HB.out)) hb); clear HO162; clear HB; have HO162 := n0_; have HB := n1_; clear n0_ n1_; (try clear hb); (try clear hb2); (try clear hk); (try clear hi)) | ((with_reducible refine gate_callee (f := 29) rfl ?_); refine goesL_ (some 33) rfl rfl Try.func29 (by kernel_rfl) rfl #[.slice A0 l0.length c0] rfl (by (try simp only [List.map_toArray, List.map_cons, List.map_nil]); first | done | rfl | (simp only [List.length_drop, List.length_take]; rfl)) ?_; (with_reducible refine (laws_toFloatBoxS.calls k _ _ l0 t165 _ ?side1 ?side2 A10.out).mono ?_); (case side1 => repeat (first | exact (Kd.C_below HR0.out HB.out) | (with_reducible refine Kd.C_alloc ?_ _) | (with_reducible refine Kd.C_drewN ?_ _) | (with_reducible refine Kd.C_drew ?_))); (case side2 => exact HC0.out); rintro e w16 ⟨v166, rfl, ho0, hb⟩; refine ⟨_, rfl, ?_⟩; have n0_ := Aside0.mk (Kd.R_elder' (by (with_reducible repeat (first | apply Kd.R_alloc | apply Kd.R_drewN | apply Kd.R_drew)); exact HO162.out) (Kd.R_base ho0) hb); have n1_ := Aside0.mk (Kd.R_lower (Kd.R_new' ho0 (Kd.R_lt (by (with_reducible repeat (first | apply Kd.R_alloc | apply Kd.R_drewN | apply Kd.R_drew)); exact HO162.out))) (below_size (by repeat (first | (with_reducible first | exact HB.out | apply below_alloc | apply pw_below_drewN | apply below_drew1) | exact HB.out)))); have n2_ := Aside0.mk (below_step (by repeat (first | (with_reducible first | exact HB.out | apply below_alloc | apply pw_below_drewN | apply below_drew1) | exact HB.out)) hb); clear HO162; clear HB; have HO162 := n0_; have HO167 := n1_; have HB := n2_; clear n0_ n1_ n2_; (try clear hb); (try clear hb2); (try clear hk); (try clear hi); (try clear ho0); obtain ⟨Ao17, co17, eo17⟩ := Kd.R_slice HO167.out; subst eo17) | ((with_reducible refine gate_callee (f := 43) rfl ?_); refine goesL_ (some 40) rfl rfl Try.func43 (by kernel_rfl) rfl #[.slice Ao17 t165.length co17, .int .i64 a1, .int .i64 a2, .int .i64 a3, .int .i64 a4] rfl (by (try simp only [List.map_toArray, List.map_cons, List.map_nil]); first | done | rfl | (simp only [List.length_drop, List.length_take]; rfl)) ?_; (with_reducible refine (impl_Room.calls k _ _ t165 a1 a2 a3 a4 t168 t169 _ ?side1 ?side2 A11.out).mono ?_); (case side1 => repeat (first | exact (Kd.R_reads' HO167.out).2.2 | (with_reducible refine Kd.C_alloc ?_ _) | (with_reducible refine Kd.C_drewN ?_ _) | (with_reducible refine Kd.C_drew ?_))); (case side2 => exact (Kd.R_reads' HO167.out).2.1); rintro e w18 ⟨rfl, hb⟩; refine ⟨_, rfl, ?_⟩; have n0_ := Aside0.mk (Kd.R_below (by (with_reducible repeat (first | apply Kd.R_alloc | apply Kd.R_drewN | apply Kd.R_drew)); exact HO162.out) hb); have n1_ := Aside0.mk (Kd.R_below (by (with_reducible repeat (first | apply Kd.R_alloc | apply Kd.R_drewN | apply Kd.R_drew)); exact HO167.out) hb); have n2_ := Aside0.mk (below_step (by repeat (first | (with_reducible first | exact HB.out | apply below_alloc | apply pw_below_drewN | apply below_drew1) | exact HB.out)) hb); clear HO162; clear HO167; clear HB; have HO162 := n0_; have HO167 := n1_; have HB := n2_; clear n0_ n1_ n2_; (try clear hb); (try clear hb2); (try clear hk); (try clear hi)))
    (try simp only [Act.put, List.setIfInBounds_toArray, List.set_cons_zero, List.set_cons_succ])
    go_cut [50] (fun v50 wc => ∃ (kq : Nat) (x50_11 : Bool), v50 = .bool x50_11 ∧ Aside0 (laws_FnExactRoom.j0 kq l0 t165 x50_11 = some r) ∧ Aside0 (kq ≤ k) ∧ Aside0 (Kd.R k59 59 wc w.heap.size (fun _ => True) (.slice Ao17 t165.length co17) t165) ∧ Aside0 (Below w.heap.size w wc))
    case first =>
      have H := HC12.out
      clear HC12
      by_cases c19 : t168 = t163
      · rw [if_pos c19] at H
        have c19b0 : (t168 == t163) = true := beq_iff_eq.mpr c19
        have c19b1 : (t168 != t163) = false := bne_eq_false_iff_eq.mpr c19
        clear c19
        (first | rw [c19b0] | (simp only [i64_w, i32_w]; rw [c19b0]) | skip)
        have H' := Aside0.mk H
        clear H
        go_wp2
        go_meet
        case rel => exact ⟨_, ((t169 != t164)), (by first | rfl | (simp; done) | (simp [*]; done)), H', ⟨by first | omega | exact Nat.le_refl _⟩, ⟨by (with_reducible repeat (first | apply Kd.R_alloc | apply Kd.R_drewN | apply Kd.R_drew)); exact Kd.R_mono HO167.out (fun _ hk => trivial)⟩, ⟨by repeat (first | (with_reducible first | exact HB.out | apply below_alloc | apply pw_below_drewN | apply below_drew1) | exact HB.out)⟩⟩
      · rw [if_neg c19] at H
        have c19b0 : (t168 == t163) = false := beq_eq_false_iff_ne.mpr c19
        have c19b1 : (t168 != t163) = true := bne_iff_ne.mpr c19
        (first | rw [c19b0] | (simp only [i64_w, i32_w]; rw [c19b0]) | skip)
        have H' := Aside0.mk H
        clear H
        go_wp2
        go_meet
        case rel => exact ⟨_, (true), (by first | rfl | (simp; done) | (simp [*]; done)), H', ⟨by first | omega | exact Nat.le_refl _⟩, ⟨by (with_reducible repeat (first | apply Kd.R_alloc | apply Kd.R_drewN | apply Kd.R_drew)); exact Kd.R_mono HO167.out (fun _ hk => trivial)⟩, ⟨by repeat (first | (with_reducible first | exact HB.out | apply below_alloc | apply pw_below_drewN | apply below_drew1) | exact HB.out)⟩⟩
    case rest =>
      clear HC12
      try clear c1
      try clear c2
      try clear p2
      try clear c4
      try clear c7
      try clear c7b0
      try clear c13
      try clear c19
      try clear c19b0
      try clear c19b1
      obtain ⟨kq, x50_11, rfl, HA, HJ11, HO_14, HB⟩ := hcut
      cases kq with
      | zero => exact absurd HA.out (by simp [laws_FnExactRoom.j0])
      | succ kj11 =>
        have H := HA.out
        clear HA
        simp only [laws_FnExactRoom.j0] at H
        by_cases c20 : x50_11 = true
        · subst c20
          have H1 : (some false) = some r := by rw [if_pos rfl] at H; exact H
          clear H
          have H := H1
          clear H1
          obtain rfl := Option.some.inj H
          go_wp2
          go_ret
          exact ⟨by first | rfl | (simp [errW_none, errW_some] <;> rfl) | (simp [*, errW_none, errW_some] <;> rfl), by repeat (first | (with_reducible first | exact HB.out | apply below_alloc | apply pw_below_drewN | apply below_drew1) | exact HB.out)⟩
        · replace c20 := Bool.eq_false_iff.mpr c20
          subst c20
          have H1 : ((laws_toFloatBoxS.f kj11 l0).bind fun t170 => ((laws_eqFloatBoxS.f kj11 t165 t170).bind fun t173 => (if t173 = true then (some true) else (some false)))) = some r := by rw [if_neg (show ¬ (false = true) by decide)] at H; exact H
          clear H
          have H := H1
          clear H1
          replace H := Option.bind_eq_some_iff.mp H
          obtain ⟨t170, A210, H⟩ := H
          replace H : ((laws_eqFloatBoxS.f kj11 t165 t170).bind fun t173 => (if t173 = true then (some true) else (some false))) = some r := H
          have A21 := Aside0.mk A210
          clear A210
          replace H := Option.bind_eq_some_iff.mp H
          obtain ⟨t173, A220, H⟩ := H
          replace H : (if t173 = true then (some true) else (some false)) = some r := H
          have A22 := Aside0.mk A220
          clear A220
          by_cases c23 : t173 = true
          · subst c23
            have H1 : (some true) = some r := by rw [if_pos rfl] at H; exact H
            clear H
            have H := H1
            clear H1
            obtain rfl := Option.some.inj H
            go_wp2_with (first | ((with_reducible refine gate_callee (f := 29) rfl ?_); refine goesL_ (some 53) rfl rfl Try.func29 (by kernel_rfl) rfl #[.slice A0 l0.length c0] rfl (by (try simp only [List.map_toArray, List.map_cons, List.map_nil]); first | done | rfl | (simp only [List.length_drop, List.length_take]; rfl)) ?_; (with_reducible refine (laws_toFloatBoxS.calls kj11 _ _ l0 t170 _ ?side1 ?side2 A21.out).mono ?_); (case side1 => repeat (first | exact (Kd.C_below HR0.out HB.out) | (with_reducible refine Kd.C_alloc ?_ _) | (with_reducible refine Kd.C_drewN ?_ _) | (with_reducible refine Kd.C_drew ?_))); (case side2 => exact HC0.out); rintro e w24 ⟨v171, rfl, ho0, hb⟩; refine ⟨_, rfl, ?_⟩; have n0_ := Aside0.mk (Kd.R_elder' (by (with_reducible repeat (first | apply Kd.R_alloc | apply Kd.R_drewN | apply Kd.R_drew)); exact HO_14.out) (Kd.R_base ho0) hb); have n1_ := Aside0.mk (Kd.R_lower (Kd.R_new' ho0 (Kd.R_lt (by (with_reducible repeat (first | apply Kd.R_alloc | apply Kd.R_drewN | apply Kd.R_drew)); exact HO_14.out))) (below_size (by repeat (first | (with_reducible first | exact HB.out | apply below_alloc | apply pw_below_drewN | apply below_drew1) | exact HB.out)))); have n2_ := Aside0.mk (below_step (by repeat (first | (with_reducible first | exact HB.out | apply below_alloc | apply pw_below_drewN | apply below_drew1) | exact HB.out)) hb); clear HO_14; clear HB; have HO_14 := n0_; have HO172 := n1_; have HB := n2_; clear n0_ n1_ n2_; (try clear hb); (try clear hb2); (try clear hk); (try clear hi); (try clear ho0); obtain ⟨Ao25, co25, eo25⟩ := Kd.R_slice HO172.out; subst eo25) | ((with_reducible refine gate_callee (f := 31) rfl ?_); refine goesL_ (some 54) rfl rfl Try.func31 (by kernel_rfl) rfl #[.slice Ao17 t165.length co17, .slice Ao25 t170.length co25] rfl (by (try simp only [List.map_toArray, List.map_cons, List.map_nil]); first | done | rfl | (simp only [List.length_drop, List.length_take]; rfl)) ?_; (with_reducible refine (laws_eqFloatBoxS.calls kj11 _ _ t165 _ _ t170 true _ ?side1 ?side2 ?side3 ?side4 A22.out).mono ?_); (case side1 => repeat (first | exact (Kd.R_reads' HO_14.out).2.2 | (with_reducible refine Kd.C_alloc ?_ _) | (with_reducible refine Kd.C_drewN ?_ _) | (with_reducible refine Kd.C_drew ?_))); (case side2 => exact (Kd.R_reads' HO_14.out).2.1); (case side3 => repeat (first | exact (Kd.R_reads' HO172.out).2.2 | (with_reducible refine Kd.C_alloc ?_ _) | (with_reducible refine Kd.C_drewN ?_ _) | (with_reducible refine Kd.C_drew ?_))); (case side4 => exact (Kd.R_reads' HO172.out).2.1); rintro e w26 ⟨rfl, hb⟩; refine ⟨_, rfl, ?_⟩; have n0_ := Aside0.mk (Kd.R_below (by (with_reducible repeat (first | apply Kd.R_alloc | apply Kd.R_drewN | apply Kd.R_drew)); exact HO_14.out) hb); have n1_ := Aside0.mk (Kd.R_below (by (with_reducible repeat (first | apply Kd.R_alloc | apply Kd.R_drewN | apply Kd.R_drew)); exact HO172.out) hb); have n2_ := Aside0.mk (below_step (by repeat (first | (with_reducible first | exact HB.out | apply below_alloc | apply pw_below_drewN | apply below_drew1) | exact HB.out)) hb); clear HO_14; clear HO172; clear HB; have HO_14 := n0_; have HO172 := n1_; have HB := n2_; clear n0_ n1_ n2_; (try clear hb); (try clear hb2); (try clear hk); (try clear hi)))
            go_ret
            exact ⟨by first | rfl | (simp [errW_none, errW_some] <;> rfl) | (simp [*, errW_none, errW_some] <;> rfl), by repeat (first | (with_reducible first | exact HB.out | apply below_alloc | apply pw_below_drewN | apply below_drew1) | exact HB.out)⟩
          · replace c23 := Bool.eq_false_iff.mpr c23
            subst c23
            have H1 : (some false) = some r := by rw [if_neg (show ¬ (false = true) by decide)] at H; exact H
            clear H
            have H := H1
            clear H1
            obtain rfl := Option.some.inj H
            go_wp2_with (first | ((with_reducible refine gate_callee (f := 29) rfl ?_); refine goesL_ (some 53) rfl rfl Try.func29 (by kernel_rfl) rfl #[.slice A0 l0.length c0] rfl (by (try simp only [List.map_toArray, List.map_cons, List.map_nil]); first | done | rfl | (simp only [List.length_drop, List.length_take]; rfl)) ?_; (with_reducible refine (laws_toFloatBoxS.calls kj11 _ _ l0 t170 _ ?side1 ?side2 A21.out).mono ?_); (case side1 => repeat (first | exact (Kd.C_below HR0.out HB.out) | (with_reducible refine Kd.C_alloc ?_ _) | (with_reducible refine Kd.C_drewN ?_ _) | (with_reducible refine Kd.C_drew ?_))); (case side2 => exact HC0.out); rintro e w27 ⟨v171, rfl, ho0, hb⟩; refine ⟨_, rfl, ?_⟩; have n0_ := Aside0.mk (Kd.R_elder' (by (with_reducible repeat (first | apply Kd.R_alloc | apply Kd.R_drewN | apply Kd.R_drew)); exact HO_14.out) (Kd.R_base ho0) hb); have n1_ := Aside0.mk (Kd.R_lower (Kd.R_new' ho0 (Kd.R_lt (by (with_reducible repeat (first | apply Kd.R_alloc | apply Kd.R_drewN | apply Kd.R_drew)); exact HO_14.out))) (below_size (by repeat (first | (with_reducible first | exact HB.out | apply below_alloc | apply pw_below_drewN | apply below_drew1) | exact HB.out)))); have n2_ := Aside0.mk (below_step (by repeat (first | (with_reducible first | exact HB.out | apply below_alloc | apply pw_below_drewN | apply below_drew1) | exact HB.out)) hb); clear HO_14; clear HB; have HO_14 := n0_; have HO172 := n1_; have HB := n2_; clear n0_ n1_ n2_; (try clear hb); (try clear hb2); (try clear hk); (try clear hi); (try clear ho0); obtain ⟨Ao28, co28, eo28⟩ := Kd.R_slice HO172.out; subst eo28) | ((with_reducible refine gate_callee (f := 31) rfl ?_); refine goesL_ (some 54) rfl rfl Try.func31 (by kernel_rfl) rfl #[.slice Ao17 t165.length co17, .slice Ao28 t170.length co28] rfl (by (try simp only [List.map_toArray, List.map_cons, List.map_nil]); first | done | rfl | (simp only [List.length_drop, List.length_take]; rfl)) ?_; (with_reducible refine (laws_eqFloatBoxS.calls kj11 _ _ t165 _ _ t170 false _ ?side1 ?side2 ?side3 ?side4 A22.out).mono ?_); (case side1 => repeat (first | exact (Kd.R_reads' HO_14.out).2.2 | (with_reducible refine Kd.C_alloc ?_ _) | (with_reducible refine Kd.C_drewN ?_ _) | (with_reducible refine Kd.C_drew ?_))); (case side2 => exact (Kd.R_reads' HO_14.out).2.1); (case side3 => repeat (first | exact (Kd.R_reads' HO172.out).2.2 | (with_reducible refine Kd.C_alloc ?_ _) | (with_reducible refine Kd.C_drewN ?_ _) | (with_reducible refine Kd.C_drew ?_))); (case side4 => exact (Kd.R_reads' HO172.out).2.1); rintro e w29 ⟨rfl, hb⟩; refine ⟨_, rfl, ?_⟩; have n0_ := Aside0.mk (Kd.R_below (by (with_reducible repeat (first | apply Kd.R_alloc | apply Kd.R_drewN | apply Kd.R_drew)); exact HO_14.out) hb); have n1_ := Aside0.mk (Kd.R_below (by (with_reducible repeat (first | apply Kd.R_alloc | apply Kd.R_drewN | apply Kd.R_drew)); exact HO172.out) hb); have n2_ := Aside0.mk (below_step (by repeat (first | (with_reducible first | exact HB.out | apply below_alloc | apply pw_below_drewN | apply below_drew1) | exact HB.out)) hb); clear HO_14; clear HO172; clear HB; have HO_14 := n0_; have HO172 := n1_; have HB := n2_; clear n0_ n1_ n2_; (try clear hb); (try clear hb2); (try clear hk); (try clear hi)))
            go_ret
            exact ⟨by first | rfl | (simp [errW_none, errW_some] <;> rfl) | (simp [*, errW_none, errW_some] <;> rfl), by repeat (first | (with_reducible first | exact HB.out | apply below_alloc | apply pw_below_drewN | apply below_drew1) | exact HB.out)⟩

/-- THE ONE PURE STATEMENT of laws_FnExactRoom: yours. -/
def laws_FnExactRoom.Pure : Prop := ∀ (l0 : List (S63)) (a1 : Int) (a2 : Int) (a3 : Int) (a4 : Int), (l0.length ≤ maxLen ∧ ∀ x ∈ l0, ok63 x) → (Lit.int .i64 a1).wf = true → (Lit.int .i64 a2).wf = true → (Lit.int .i64 a3).wf = true → (Lit.int .i64 a4).wf = true → ∃ k, laws_FnExactRoom.f k l0 a1 a2 a3 a4 = some true
theorem laws_FnExactRoom.walk : True := trivial

end Go.Proofs.Ytdnlehohbbinpaa.MFnExactRoom
