/- The functions that the statement reaches, part 3: bodies and what they compute. No condition. -/
import Derived.Test.YtlbagejkjkfkjaaHCClient2
import Derived.Test.YtlbagejkjkfkjaaD
import Derived.Test.YtlbagejkjkfkjaaA1
/- The data of a MapCmd, and its cells. -/
namespace Go.Proofs.Ytlbagejkjkfkjaa.A
open Go
set_option linter.unusedSimpArgs false
set_option linter.unusedVariables false
structure MapCmd where
  kind : Int
  at_ : Int
  group : Int
  deriving DecidableEq
namespace MapCmd
def enc (t : MapCmd) : List Cell := [.int .i64 t.kind, .int .u64 t.at_, .int .i64 t.group]
theorem len (t : MapCmd) : t.enc.length = 3 := rfl
theorem tak (t : MapCmd) : t.enc.take 3 = t.enc := rfl
def none_ : MapCmd := ⟨0, 0, 0⟩
/-- The numbers are those of the machine. -/
structure Ok (t : MapCmd) : Prop where
  kind : -9223372036854775808 ≤ t.kind ∧ t.kind ≤ 9223372036854775807
  at_ : 0 ≤ t.at_ ∧ t.at_ ≤ 18446744073709551615
  group : -9223372036854775808 ≤ t.group ∧ t.group ≤ 9223372036854775807
end MapCmd
theorem Wf.isMapCmd {h : Heap} {n : Nat} {cs : List Cell} (w : Wf h (n + 2) shMapCmd cs) : ∃ t : MapCmd, cs = t.enc ∧ t.Ok := by
  obtain ⟨_, _, rfl, _, ⟨kind0, rfl, h0⟩, _, _, rfl, _, ⟨at_0, rfl, h1⟩, _, _, rfl, _, ⟨group0, rfl, h2⟩, rfl⟩ := w
  exact ⟨⟨kind0, at_0, group0⟩, rfl, ⟨wfI h0, wfU h1, wfI h2⟩⟩
theorem Wf.isMapCmdS {h : Heap} {n : Nat} {x : Cell} (w : Wf h (n + 3) shMapCmdS [x]) : ∃ xs fp, SlR 21 (Fl MapCmd.enc) h x xs fp ∧ ∀ t, t ∈ xs → t.Ok :=
  SlR.ofWf (fun r hr => by obtain ⟨t, rfl, ht⟩ := Wf.isMapCmd hr.2; exact ⟨t, [], ⟨rfl, rfl⟩, ht⟩) w
theorem Wf.isMapCmdS' {h : Heap} {n : Nat} {a : List Cell} (w : Wf h (n + 3) shMapCmdS a) : ∃ x xs fp, a = [x] ∧ SlR 21 (Fl MapCmd.enc) h x xs fp ∧ ∀ t, t ∈ xs → t.Ok := by
  have hx : ∃ x, a = [x] := by rcases w with w | ⟨_, _, w, _⟩ <;> exact ⟨_, w⟩
  obtain ⟨x, rfl⟩ := hx
  obtain ⟨xs, fp, v, ok⟩ := Wf.isMapCmdS w
  exact ⟨x, xs, fp, rfl, v, ok⟩
end Go.Proofs.Ytlbagejkjkfkjaa.A
/- What a command does with a chart. -/
namespace Go.Proofs.Ytlbagejkjkfkjaa.A
open Go
set_option linter.unusedSimpArgs false
set_option linter.unusedVariables false
/-- Is a range the one that moves? -/
def Chart.mv (c : Chart) (i : Nat) : Bool := c.moving && ((Range.at_ c.ranges i).lo == c.lo)
def Chart.fin (c : Chart) (p : List Range × Bool) : Chart × Int := bif p.2 then ({ c with epoch := c.epoch + 1, ranges := p.1 }, 0) else (c, 4)
def Chart.pl (c : Chart) (id : Int) : Nat := (findHi c.ranges id).toNat
def Chart.act (c : Chart) (q : MapCmd) : Chart × Int :=
  bif q.kind == 0 then (bif c.mv (c.pl q.at_) then (c, 2) else c.fin (splitRg c.ranges q.at_ (Range.at_ c.ranges (c.pl q.at_)).group))
  else bif q.kind == 1 then (bif ((Range.at_ c.ranges (c.pl q.at_)).lo != q.at_) || (q.at_ == 0) then (c, 4) else bif c.mv (c.pl q.at_) || c.mv (c.pl q.at_ - 1) then (c, 2) else c.fin (mergeRg c.ranges ((c.pl q.at_ : Nat) - 1 : Int)))
  else bif q.kind == 2 then (bif c.moving then (c, 2) else bif inR q.group 0 99 && (q.group != (Range.at_ c.ranges (c.pl q.at_)).group) then (⟨c.epoch + 1, c.ranges, true, (Range.at_ c.ranges (c.pl q.at_)).lo, q.group⟩, 0) else (c, 4))
  else bif c.moving then (⟨c.epoch + 1, bif q.kind == 3 then c.ranges.set (c.pl c.lo) ⟨(Range.at_ c.ranges (c.pl c.lo)).lo, (Range.at_ c.ranges (c.pl c.lo)).hi, c.to⟩ else c.ranges, false, 0, 0⟩, 0) else (c, 3)
def doMap (c : Chart) (q : MapCmd) : Chart × Int := bif c.good && (inR q.kind 0 4 && !(c.epoch == 1000000)) then c.act q else (c, 1)
theorem cutRg_len (xs : List Range) (k : Nat) (a g : Int) : (cutRg xs k a g).length ≤ xs.length + 2 := by
  simp only [cutRg, List.length_append, List.length_take, List.length_drop, List.length_cons, List.length_nil]; omega
theorem splitRg_len (xs : List Range) (a g : Int) : (splitRg xs a g).1.length ≤ xs.length + 2 := by
  unfold splitRg
  cases (rangesOk xs && (inR g 0 99 && !((xs.length : Int) == 24))) <;> simp only [cond_true, cond_false]
  · simp
  · cases ((Range.at_ xs (findHi xs a).toNat).lo == a) <;> simp only [cond_true, cond_false]
    · exact cutRg_len _ _ _ _
    · simp
theorem mergeRg_len (xs : List Range) (k : Int) : (mergeRg xs k).1.length ≤ xs.length := by
  unfold mergeRg
  cases (rangesOk xs && (decide (0 ≤ k) && (decide (k < (xs.length : Int) - 1) && ((Range.at_ xs k.toNat).group == (Range.at_ xs (k.toNat + 1)).group)))) <;> simp only [cond_true, cond_false]
  · simp
  · exact Nat.le_trans (List.length_eraseIdx_le _ _) (by simp)
theorem Chart.fin_len (c : Chart) (p : List Range × Bool) (h : p.1.length ≤ c.ranges.length + 2) : (c.fin p).1.ranges.length ≤ c.ranges.length + 2 := by
  unfold Chart.fin
  cases p.2
  · simp
  · exact h
theorem doMap_len (c : Chart) (q : MapCmd) : (doMap c q).1.ranges.length ≤ c.ranges.length + 2 := by
  have h1 := c.fin_len (splitRg c.ranges q.at_ (Range.at_ c.ranges (c.pl q.at_)).group) (splitRg_len _ _ _)
  have h2 := c.fin_len (mergeRg c.ranges ((c.pl q.at_ : Nat) - 1 : Int)) (Nat.le_trans (mergeRg_len _ _) (by omega))
  unfold doMap Chart.act
  cases (c.good && (inR q.kind 0 4 && !(c.epoch == 1000000))) <;> simp only [cond_true, cond_false]
  · omega
  cases (q.kind == 0) <;> simp only [cond_true, cond_false]
  · cases (q.kind == 1) <;> simp only [cond_true, cond_false]
    · cases (q.kind == 2) <;> simp only [cond_true, cond_false]
      · cases c.moving <;> simp only [cond_true, cond_false]
        · omega
        · cases (q.kind == 3) <;> simp
      · cases c.moving <;> simp only [cond_true, cond_false]
        · cases (inR q.group 0 99 && (q.group != (Range.at_ c.ranges (c.pl q.at_)).group)) <;> simp
        · omega
    · cases (((Range.at_ c.ranges (c.pl q.at_)).lo != q.at_) || (q.at_ == 0)) <;> simp only [cond_true, cond_false]
      · cases (c.mv (c.pl q.at_) || c.mv (c.pl q.at_ - 1)) <;> simp only [cond_true, cond_false]
        · exact h2
        · omega
      · omega
  · cases c.mv (c.pl q.at_) <;> simp only [cond_true, cond_false]
    · exact h1
    · omega
/-- The range that moves is found by its first id. -/
theorem Chart.mv_place {c : Chart} (g : c.good = true) (hm : c.moving = true) (hlo : 0 ≤ c.lo ∧ c.lo ≤ 18446744073709551615) : ∃ j, j < c.ranges.length ∧ findLo c.ranges c.lo = (j : Int) ∧ c.pl c.lo = j ∧ findHi c.ranges c.lo = (j : Int) ∧ (Range.at_ c.ranges j).lo = c.lo ∧ ∀ i, i < c.ranges.length → (c.mv i = true ↔ i = j) := by
  have hr := Chart.good_ranges g
  have hfit := rangesOk_fit hr
  obtain ⟨j, hj, q1, q2, q3, q4, q5⟩ := Chart.has (c := c) hr hlo.1 hlo.2
  have hb := hfit.begins hj q4 q5
  have hgl : (Range.at_ c.ranges j).lo = c.lo := by
    simp only [Chart.good, hm, cond_true, Bool.and_eq_true, beq_iff_eq, q3] at g
    exact g.2.2.1
  rw [if_pos hgl] at hb
  refine ⟨j, hj, hb, by simp [Chart.pl, q1], q1, hgl, fun i hi => ?_⟩
  simp only [Chart.mv, hm, Bool.true_and, beq_iff_eq]
  constructor
  · intro he
    have hj2 := hfit.le i hi
    have hj3 := hfit.le j hj
    rcases Nat.lt_trichotomy i j with h | h | h
    · have := hfit.apart h hj; omega
    · exact h
    · have := hfit.apart h hi; omega
  · intro he; subst he; exact hgl
end Go.Proofs.Ytlbagejkjkfkjaa.A
/- A command done with a chart: what stays small. -/
namespace Go.Proofs.Ytlbagejkjkfkjaa.A
open Go
set_option linter.unusedSimpArgs false
set_option linter.unusedVariables false
theorem doMap_bad {c : Chart} (h : c.good = false) (q : MapCmd) : doMap c q = (c, 1) := by simp [doMap, h]
theorem doMap_small {c : Chart} (sm : c.Small) (q : MapCmd) : (doMap c q).1.Small := by
  cases hg : c.good with
  | false => rw [doMap_bad hg]; exact sm
  | true =>
    have h1 := doMap_len c q
    have h2 := (rangesOk_fit (Chart.good_ranges hg)).few
    show (doMap c q).1.ranges.length ≤ 1048576
    omega
end Go.Proofs.Ytlbagejkjkfkjaa.A
/- The data of a Request, and its cells. -/
namespace Go.Proofs.Ytlbagejkjkfkjaa.A
open Go
set_option linter.unusedSimpArgs false
set_option linter.unusedVariables false
structure Request where
  epoch : Int
  op : Int
  id : Int
  amount : Int
  tx : Int
  deriving DecidableEq
namespace Request
def enc (t : Request) : List Cell := [.int .i64 t.epoch, .int .i64 t.op, .int .u64 t.id, .int .u64 t.amount, .int .i64 t.tx]
theorem len (t : Request) : t.enc.length = 5 := rfl
theorem tak (t : Request) : t.enc.take 5 = t.enc := rfl
def none_ : Request := ⟨0, 0, 0, 0, 0⟩
/-- The numbers are those of the machine. -/
structure Ok (t : Request) : Prop where
  epoch : -9223372036854775808 ≤ t.epoch ∧ t.epoch ≤ 9223372036854775807
  op : -9223372036854775808 ≤ t.op ∧ t.op ≤ 9223372036854775807
  id : 0 ≤ t.id ∧ t.id ≤ 18446744073709551615
  amount : 0 ≤ t.amount ∧ t.amount ≤ 18446744073709551615
  tx : -9223372036854775808 ≤ t.tx ∧ t.tx ≤ 9223372036854775807
end Request
theorem Wf.isRequest {h : Heap} {n : Nat} {cs : List Cell} (w : Wf h (n + 2) shRequest cs) : ∃ t : Request, cs = t.enc ∧ t.Ok := by
  obtain ⟨_, _, rfl, _, ⟨epoch0, rfl, h0⟩, _, _, rfl, _, ⟨op0, rfl, h1⟩, _, _, rfl, _, ⟨id0, rfl, h2⟩, _, _, rfl, _, ⟨amount0, rfl, h3⟩, _, _, rfl, _, ⟨tx0, rfl, h4⟩, rfl⟩ := w
  exact ⟨⟨epoch0, op0, id0, amount0, tx0⟩, rfl, ⟨wfI h0, wfI h1, wfU h2, wfU h3, wfI h4⟩⟩
end Go.Proofs.Ytlbagejkjkfkjaa.A
/- The compact code of some functions: laws.eqRequestS, laws.markRequestS, laws.heldRequestS, laws.eqRequest, laws.toRequest. -/
namespace Go.Proofs.Ytlbagejkjkfkjaa.A
open Go
/-- A loop of laws.eqRequestS. -/
def r48L0 : RC :=
 .seq (.seq (.reg [⟨none, .mov 11 (.t 5)⟩,
      ⟨none, .mov 12 (.t 0)⟩,
      ⟨none, .len 13 (.t 12)⟩,
      ⟨none, .bin 14 .lss (.t 11) (.t 13)⟩])
     (.cond (.t 14)
     (.skip)
     (.exit 0)))
    (.seq (.block 1 (.seq (.reg [⟨none, .chk []⟩,
       ⟨none, .mov 17 (.t 0)⟩,
       ⟨none, .mov 18 (.t 5)⟩,
       ⟨none, .idx 19 3 (.t 17) (.t 18)⟩,
       ⟨none, .mov 21 (.t 1)⟩,
       ⟨none, .mov 22 (.t 5)⟩,
       ⟨none, .idx 23 3 (.t 21) (.t 22)⟩,
       ⟨none, .load 20 19 5 true⟩,
       ⟨none, .load 24 23 5 true⟩,
       ⟨none, .call (some 25) 99 [(.t 20), (.t 24)] true⟩,
       ⟨none, .not 26 (.t 25)⟩])
      (.cond (.t 26)
      (.seq (.reg [⟨none, .mov 4 (.k (.bool false))⟩])
       (.ret))
      (.skip))))
    (.reg [⟨none, .mov 15 (.t 5)⟩,
    ⟨none, .bin 16 .add (.t 15) (.k (.int .i64 1))⟩,
    ⟨none, .mov 5 (.t 16)⟩]))
/-- laws.eqRequestS -/
def r48 : RF :=
 ⟨2, [.tmp 4],
 .seq (.reg [⟨none, .mov 4 (.k (.bool false))⟩])
 (.seq (.seq (.reg [⟨none, .mov 6 (.t 0)⟩,
   ⟨none, .len 7 (.t 6)⟩,
   ⟨none, .mov 8 (.t 1)⟩,
   ⟨none, .len 9 (.t 8)⟩,
   ⟨none, .bin 10 .neq (.t 7) (.t 9)⟩])
  (.cond (.t 10)
  (.seq (.reg [⟨none, .mov 4 (.k (.bool false))⟩])
   (.ret))
  (.skip)))
 (.seq (.seq (.reg [⟨none, .mov 5 (.k (.int .i64 0))⟩])
  (.block 0 (.loop [0, 1, 5]
   r48L0)))
 (.seq (.reg [⟨none, .mov 4 (.k (.bool true))⟩])
 (.ret))))⟩
/-- A loop of laws.markRequestS. -/
def r49L0 : RC :=
 .seq (.seq (.reg [⟨none, .mov 6 (.t 5)⟩,
      ⟨none, .mov 7 (.t 0)⟩,
      ⟨none, .len 8 (.t 7)⟩,
      ⟨none, .bin 9 .lss (.t 6) (.t 8)⟩])
     (.cond (.t 9)
     (.skip)
     (.exit 0)))
    (.seq (.block 1 (.seq (.reg [⟨none, .mov 12 (.t 0)⟩,
       ⟨none, .mov 13 (.t 5)⟩,
       ⟨none, .mov 14 (.t 1)⟩,
       ⟨none, .idx 15 3 (.t 12) (.t 13)⟩,
       ⟨none, .fad 16 15 0⟩,
       ⟨none, .store 16 1 (.t 14)⟩])
      (.seq (.reg [⟨none, .mov 17 (.t 1)⟩,
       ⟨none, .bin 18 .add (.t 17) (.k (.int .i64 1))⟩,
       ⟨none, .mov 1 (.t 18)⟩])
      (.seq (.reg [⟨none, .mov 19 (.t 0)⟩,
       ⟨none, .mov 20 (.t 5)⟩,
       ⟨none, .mov 21 (.t 1)⟩,
       ⟨none, .idx 22 3 (.t 19) (.t 20)⟩,
       ⟨none, .fad 23 22 1⟩,
       ⟨none, .store 23 1 (.t 21)⟩])
      (.seq (.reg [⟨none, .mov 24 (.t 1)⟩,
       ⟨none, .bin 25 .add (.t 24) (.k (.int .i64 1))⟩,
       ⟨none, .mov 1 (.t 25)⟩])
      (.seq (.reg [⟨none, .mov 26 (.t 0)⟩,
       ⟨none, .mov 27 (.t 5)⟩,
       ⟨none, .mov 28 (.t 1)⟩,
       ⟨none, .conv 29 .u64 (.t 28)⟩,
       ⟨none, .idx 30 3 (.t 26) (.t 27)⟩,
       ⟨none, .fad 31 30 2⟩,
       ⟨none, .store 31 1 (.t 29)⟩])
      (.seq (.reg [⟨none, .mov 32 (.t 1)⟩,
       ⟨none, .bin 33 .add (.t 32) (.k (.int .i64 1))⟩,
       ⟨none, .mov 1 (.t 33)⟩])
      (.seq (.reg [⟨none, .mov 34 (.t 0)⟩,
       ⟨none, .mov 35 (.t 5)⟩,
       ⟨none, .mov 36 (.t 1)⟩,
       ⟨none, .conv 37 .u64 (.t 36)⟩,
       ⟨none, .idx 38 3 (.t 34) (.t 35)⟩,
       ⟨none, .fad 39 38 3⟩,
       ⟨none, .store 39 1 (.t 37)⟩])
      (.seq (.reg [⟨none, .mov 40 (.t 1)⟩,
       ⟨none, .bin 41 .add (.t 40) (.k (.int .i64 1))⟩,
       ⟨none, .mov 1 (.t 41)⟩])
      (.seq (.reg [⟨none, .mov 42 (.t 0)⟩,
       ⟨none, .mov 43 (.t 5)⟩,
       ⟨none, .mov 44 (.t 1)⟩,
       ⟨none, .idx 45 3 (.t 42) (.t 43)⟩,
       ⟨none, .fad 46 45 4⟩,
       ⟨none, .store 46 1 (.t 44)⟩])
      (.reg [⟨none, .mov 47 (.t 1)⟩,
      ⟨none, .bin 48 .add (.t 47) (.k (.int .i64 1))⟩,
      ⟨none, .mov 1 (.t 48)⟩])))))))))))
    (.reg [⟨none, .mov 10 (.t 5)⟩,
    ⟨none, .bin 11 .add (.t 10) (.k (.int .i64 1))⟩,
    ⟨none, .mov 5 (.t 11)⟩]))
/-- laws.markRequestS -/
def r49 : RF :=
 ⟨2, [.tmp 4],
 .seq (.reg [⟨none, .mov 4 (.k (.int .i64 0))⟩])
 (.seq (.seq (.reg [⟨none, .mov 5 (.k (.int .i64 0))⟩])
  (.block 0 (.loop [0, 1, 5]
   r49L0)))
 (.seq (.reg [⟨none, .mov 49 (.t 1)⟩,
  ⟨none, .mov 4 (.t 49)⟩])
 (.ret)))⟩
/-- A loop of laws.heldRequestS. -/
def r50L0 : RC :=
 .seq (.seq (.reg [⟨none, .mov 6 (.t 5)⟩,
      ⟨none, .mov 7 (.t 0)⟩,
      ⟨none, .len 8 (.t 7)⟩,
      ⟨none, .bin 9 .lss (.t 6) (.t 8)⟩])
     (.cond (.t 9)
     (.skip)
     (.exit 0)))
    (.seq (.block 1 (.seq (.seq (.reg [⟨none, .mov 12 (.t 0)⟩,
        ⟨none, .mov 13 (.t 5)⟩,
        ⟨none, .idx 14 3 (.t 12) (.t 13)⟩,
        ⟨none, .fad 15 14 0⟩,
        ⟨none, .load 16 15 1 false⟩,
        ⟨none, .mov 17 (.t 1)⟩,
        ⟨none, .bin 18 .neq (.t 16) (.t 17)⟩])
       (.cond (.t 18)
       (.seq (.reg [⟨none, .mov 4 (.k (.int .i64 (-1)))⟩])
        (.ret))
       (.skip)))
      (.seq (.reg [⟨none, .mov 19 (.t 1)⟩,
       ⟨none, .bin 20 .add (.t 19) (.k (.int .i64 1))⟩,
       ⟨none, .mov 1 (.t 20)⟩])
      (.seq (.seq (.reg [⟨none, .mov 21 (.t 0)⟩,
        ⟨none, .mov 22 (.t 5)⟩,
        ⟨none, .idx 23 3 (.t 21) (.t 22)⟩,
        ⟨none, .fad 24 23 1⟩,
        ⟨none, .load 25 24 1 false⟩,
        ⟨none, .mov 26 (.t 1)⟩,
        ⟨none, .bin 27 .neq (.t 25) (.t 26)⟩])
       (.cond (.t 27)
       (.seq (.reg [⟨none, .mov 4 (.k (.int .i64 (-1)))⟩])
        (.ret))
       (.skip)))
      (.seq (.reg [⟨none, .mov 28 (.t 1)⟩,
       ⟨none, .bin 29 .add (.t 28) (.k (.int .i64 1))⟩,
       ⟨none, .mov 1 (.t 29)⟩])
      (.seq (.seq (.reg [⟨none, .mov 30 (.t 0)⟩,
        ⟨none, .mov 31 (.t 5)⟩,
        ⟨none, .idx 32 3 (.t 30) (.t 31)⟩,
        ⟨none, .fad 33 32 2⟩,
        ⟨none, .load 34 33 1 false⟩,
        ⟨none, .mov 35 (.t 1)⟩,
        ⟨none, .conv 36 .u64 (.t 35)⟩,
        ⟨none, .bin 37 .neq (.t 34) (.t 36)⟩])
       (.cond (.t 37)
       (.seq (.reg [⟨none, .mov 4 (.k (.int .i64 (-1)))⟩])
        (.ret))
       (.skip)))
      (.seq (.reg [⟨none, .mov 38 (.t 1)⟩,
       ⟨none, .bin 39 .add (.t 38) (.k (.int .i64 1))⟩,
       ⟨none, .mov 1 (.t 39)⟩])
      (.seq (.seq (.reg [⟨none, .mov 40 (.t 0)⟩,
        ⟨none, .mov 41 (.t 5)⟩,
        ⟨none, .idx 42 3 (.t 40) (.t 41)⟩,
        ⟨none, .fad 43 42 3⟩,
        ⟨none, .load 44 43 1 false⟩,
        ⟨none, .mov 45 (.t 1)⟩,
        ⟨none, .conv 46 .u64 (.t 45)⟩,
        ⟨none, .bin 47 .neq (.t 44) (.t 46)⟩])
       (.cond (.t 47)
       (.seq (.reg [⟨none, .mov 4 (.k (.int .i64 (-1)))⟩])
        (.ret))
       (.skip)))
      (.seq (.reg [⟨none, .mov 48 (.t 1)⟩,
       ⟨none, .bin 49 .add (.t 48) (.k (.int .i64 1))⟩,
       ⟨none, .mov 1 (.t 49)⟩])
      (.seq (.seq (.reg [⟨none, .mov 50 (.t 0)⟩,
        ⟨none, .mov 51 (.t 5)⟩,
        ⟨none, .idx 52 3 (.t 50) (.t 51)⟩,
        ⟨none, .fad 53 52 4⟩,
        ⟨none, .load 54 53 1 false⟩,
        ⟨none, .mov 55 (.t 1)⟩,
        ⟨none, .bin 56 .neq (.t 54) (.t 55)⟩])
       (.cond (.t 56)
       (.seq (.reg [⟨none, .mov 4 (.k (.int .i64 (-1)))⟩])
        (.ret))
       (.skip)))
      (.reg [⟨none, .mov 57 (.t 1)⟩,
      ⟨none, .bin 58 .add (.t 57) (.k (.int .i64 1))⟩,
      ⟨none, .mov 1 (.t 58)⟩])))))))))))
    (.reg [⟨none, .mov 10 (.t 5)⟩,
    ⟨none, .bin 11 .add (.t 10) (.k (.int .i64 1))⟩,
    ⟨none, .mov 5 (.t 11)⟩]))
/-- laws.heldRequestS -/
def r50 : RF :=
 ⟨2, [.tmp 4],
 .seq (.reg [⟨none, .mov 4 (.k (.int .i64 0))⟩])
 (.seq (.seq (.reg [⟨none, .mov 5 (.k (.int .i64 0))⟩])
  (.block 0 (.loop [0, 1, 5]
   r50L0)))
 (.seq (.reg [⟨none, .mov 59 (.t 1)⟩,
  ⟨none, .mov 4 (.t 59)⟩])
 (.ret)))⟩
/-- laws.eqRequest -/
def r99 : RF :=
 ⟨2, [.tmp 4],
 .seq (.reg [⟨none, .locb 2 (.t 0)⟩,
  ⟨none, .locb 3 (.t 1)⟩,
  ⟨none, .mov 4 (.k (.bool false))⟩])
 (.seq (.seq (.reg [⟨none, .fad 5 2 0⟩,
   ⟨none, .load 6 5 1 false⟩,
   ⟨none, .fad 7 3 0⟩,
   ⟨none, .load 8 7 1 false⟩,
   ⟨none, .bin 9 .neq (.t 6) (.t 8)⟩])
  (.cond (.t 9)
  (.seq (.reg [⟨none, .mov 4 (.k (.bool false))⟩])
   (.ret))
  (.skip)))
 (.seq (.seq (.reg [⟨none, .fad 10 2 1⟩,
   ⟨none, .load 11 10 1 false⟩,
   ⟨none, .fad 12 3 1⟩,
   ⟨none, .load 13 12 1 false⟩,
   ⟨none, .bin 14 .neq (.t 11) (.t 13)⟩])
  (.cond (.t 14)
  (.seq (.reg [⟨none, .mov 4 (.k (.bool false))⟩])
   (.ret))
  (.skip)))
 (.seq (.seq (.reg [⟨none, .fad 15 2 2⟩,
   ⟨none, .load 16 15 1 false⟩,
   ⟨none, .fad 17 3 2⟩,
   ⟨none, .load 18 17 1 false⟩,
   ⟨none, .bin 19 .neq (.t 16) (.t 18)⟩])
  (.cond (.t 19)
  (.seq (.reg [⟨none, .mov 4 (.k (.bool false))⟩])
   (.ret))
  (.skip)))
 (.seq (.seq (.reg [⟨none, .fad 20 2 3⟩,
   ⟨none, .load 21 20 1 false⟩,
   ⟨none, .fad 22 3 3⟩,
   ⟨none, .load 23 22 1 false⟩,
   ⟨none, .bin 24 .neq (.t 21) (.t 23)⟩])
  (.cond (.t 24)
  (.seq (.reg [⟨none, .mov 4 (.k (.bool false))⟩])
   (.ret))
  (.skip)))
 (.seq (.seq (.reg [⟨none, .fad 25 2 4⟩,
   ⟨none, .load 26 25 1 false⟩,
   ⟨none, .fad 27 3 4⟩,
   ⟨none, .load 28 27 1 false⟩,
   ⟨none, .bin 29 .neq (.t 26) (.t 28)⟩])
  (.cond (.t 29)
  (.seq (.reg [⟨none, .mov 4 (.k (.bool false))⟩])
   (.ret))
  (.skip)))
 (.seq (.reg [⟨none, .mov 4 (.k (.bool true))⟩])
 (.ret)))))))⟩
/-- laws.toRequest -/
def r109 : RF :=
 ⟨1, [.cell 2 5 true],
 .seq (.reg [⟨none, .locb 1 (.t 0)⟩,
  ⟨none, .loc 2 [.int .i64 0, .int .i64 0, .int .u64 0, .int .u64 0, .int .i64 0]⟩])
 (.seq (.reg [⟨none, .loc 3 [.int .i64 0, .int .i64 0, .int .u64 0, .int .u64 0, .int .i64 0]⟩])
 (.seq (.reg [⟨none, .fad 4 1 0⟩,
  ⟨none, .load 5 4 1 false⟩,
  ⟨none, .fad 6 3 0⟩,
  ⟨none, .store 6 1 (.t 5)⟩])
 (.seq (.reg [⟨none, .fad 7 1 1⟩,
  ⟨none, .load 8 7 1 false⟩,
  ⟨none, .fad 9 3 1⟩,
  ⟨none, .store 9 1 (.t 8)⟩])
 (.seq (.reg [⟨none, .fad 10 1 2⟩,
  ⟨none, .load 11 10 1 false⟩,
  ⟨none, .fad 12 3 2⟩,
  ⟨none, .store 12 1 (.t 11)⟩])
 (.seq (.reg [⟨none, .fad 13 1 3⟩,
  ⟨none, .load 14 13 1 false⟩,
  ⟨none, .fad 15 3 3⟩,
  ⟨none, .store 15 1 (.t 14)⟩])
 (.seq (.reg [⟨none, .fad 16 1 4⟩,
  ⟨none, .load 17 16 1 false⟩,
  ⟨none, .fad 18 3 4⟩,
  ⟨none, .store 18 1 (.t 17)⟩])
 (.seq (.reg [⟨none, .load 19 3 5 true⟩,
  ⟨none, .store 2 5 (.t 19)⟩])
 (.ret))))))))⟩
/-- The functions of this text, with their numbers. -/
def tLRequest : List (Nat × RF) := [(48, r48), (49, r49), (50, r50), (99, r99), (109, r109)]
end Go.Proofs.Ytlbagejkjkfkjaa.A
/- What the converters of Request compute. -/
namespace Go.Proofs.Ytlbagejkjkfkjaa.A
open Go
set_option linter.unusedSimpArgs false
set_option linter.unusedVariables false
section
variable {F : Nat → Option RF} {Z : CallF} {h : Heap} {x y : Cell} {xs ys : List Request} {fp fq : List Nat}
def Request.zero : List Cell := [.int .i64 0, .int .i64 0, .int .u64 0, .int .u64 0, .int .i64 0]
theorem toRequest_run (hL : Has F tLRequest) (p : Request) (h : Heap) : call F Z 109 [.agg p.enc] h = some (.agg p.enc, h) := by
  rw [call_run F Z (hL.lk (g := 109) rfl) _ _ rfl]
  simp only [Request.enc, run0, run1, run2, run3, run4, noSlot, ownS, ownK, memN, RO.dst, lk, drop, forget, number, Nat.reduceBEq, cut?, splice?, builds, List.length_cons, List.length_nil, List.drop_succ_cons, List.drop_zero, List.take_succ_cons, List.take_zero, List.cons_append, List.nil_append, List.append_nil, List.drop_nil, List.take_nil, Nat.reduceAdd, Nat.reduceLeDiff, Nat.zero_add, Nat.add_zero, ↓reduceIte, Bool.not_true, Bool.not_false, decide_true, decide_false, eq_self, bne_self_eq_false, List.getElem?_cons_zero, List.getElem?_cons_succ, decide_eq_true_eq, Bool.false_eq_true, Bool.true_eq_false, reduceCtorEq, Nat.le_refl]
set_option maxHeartbeats 1000000 in
theorem eqRequest_run (hL : Has F tLRequest) (p q : Request) (h : Heap) : call F Z 99 [.agg p.enc, .agg q.enc] h = some (.c (.bool (decide (p = q))), h) := by
  rw [call_run F Z (hL.lk (g := 99) rfl) _ _ rfl]
  obtain ⟨epoch1, op1, id1, amount1, tx1⟩ := p
  obtain ⟨epoch2, op2, id2, amount2, tx2⟩ := q
  simp only [Request.enc, run0, run1, run2, run3, run4, noSlot, ownS, ownK, memN, RO.dst, lk, drop, forget, number, Nat.reduceBEq, cut?, splice?, builds, List.length_cons, List.length_nil, List.drop_succ_cons, List.drop_zero, List.take_succ_cons, List.take_zero, List.cons_append, List.nil_append, List.append_nil, List.drop_nil, List.take_nil, Nat.reduceAdd, Nat.reduceLeDiff, Nat.zero_add, Nat.add_zero, ↓reduceIte, Bool.not_true, Bool.not_false, decide_true, decide_false, eq_self, bne_self_eq_false, List.getElem?_cons_zero, List.getElem?_cons_succ, decide_eq_true_eq, Bool.false_eq_true, Bool.true_eq_false, reduceCtorEq, Nat.le_refl]
  (repeat' ((first | (rw [gF_if]; split) | (rw [condC_if]; split) | (rw [pickR_if]; split)) <;> (rename_i hh; (try simp only [Bool.not_eq_true, decide_eq_true_eq] at hh); simp only [hh, run0, run1, run2, run3, run4, noSlot, ownS, ownK, memN, RO.dst, lk, drop, forget, number, Nat.reduceBEq, cut?, splice?, builds, List.length_cons, List.length_nil, List.drop_succ_cons, List.drop_zero, List.take_succ_cons, List.take_zero, List.cons_append, List.nil_append, List.append_nil, List.drop_nil, List.take_nil, Nat.reduceAdd, Nat.reduceLeDiff, Nat.zero_add, Nat.add_zero, ↓reduceIte, Bool.not_true, Bool.not_false, decide_true, decide_false, eq_self, bne_self_eq_false, List.getElem?_cons_zero, List.getElem?_cons_succ, decide_eq_true_eq, Bool.false_eq_true, Bool.true_eq_false, reduceCtorEq, Nat.le_refl]))) <;> refine fin_bool ?_ <;> simp_all
theorem toRequest_lit (hL : Has F tLRequest) (epoch1 op1 id1 amount1 tx1 : Int) (h : Heap) : call F Z 109 [.agg [.int .i64 epoch1, .int .i64 op1, .int .u64 id1, .int .u64 amount1, .int .i64 tx1]] h = some (.agg [.int .i64 epoch1, .int .i64 op1, .int .u64 id1, .int .u64 amount1, .int .i64 tx1], h) := toRequest_run hL ⟨epoch1, op1, id1, amount1, tx1⟩ h
theorem eqRequest_lit (hL : Has F tLRequest) (epoch1 op1 id1 amount1 tx1 epoch2 op2 id2 amount2 tx2 : Int) (h : Heap) : call F Z 99 [.agg [.int .i64 epoch1, .int .i64 op1, .int .u64 id1, .int .u64 amount1, .int .i64 tx1], .agg [.int .i64 epoch2, .int .i64 op2, .int .u64 id2, .int .u64 amount2, .int .i64 tx2]] h = some (.c (.bool (decide ((⟨epoch1, op1, id1, amount1, tx1⟩ : Request) = ⟨epoch2, op2, id2, amount2, tx2⟩))), h) := eqRequest_run hL ⟨epoch1, op1, id1, amount1, tx1⟩ ⟨epoch2, op2, id2, amount2, tx2⟩ h
theorem eqRequestS_run (hL : Has F tLRequest) (w : SlR 3 (Fl Request.enc) h x xs fp) (v : SlR 3 (Fl Request.enc) h y ys fq) : call F Z 48 [.c x, .c y] h = some (.c (.bool (decide (xs = ys))), h) := by
  have hw := w.le2
  have hv := v.le2
  rw [call_run F Z (hL.lk (g := 48) rfl) _ _ rfl]
  simp only [run0, run1, run2, run3, run4, noSlot, ownS, ownK, memN, RO.dst, lk, drop, forget, number, Nat.reduceBEq, cut?, splice?, builds, List.length_cons, List.length_nil, List.drop_succ_cons, List.drop_zero, List.take_succ_cons, List.take_zero, List.cons_append, List.nil_append, List.append_nil, List.drop_nil, List.take_nil, Nat.reduceAdd, Nat.reduceLeDiff, Nat.zero_add, Nat.add_zero, ↓reduceIte, Bool.not_true, Bool.not_false, decide_true, decide_false, eq_self, bne_self_eq_false, List.getElem?_cons_zero, List.getElem?_cons_succ, decide_eq_true_eq, Bool.false_eq_true, Bool.true_eq_false, reduceCtorEq, Nat.le_refl, w.len, v.len]
  rw [condC_if]
  split
  · rename_i hne
    have : xs ≠ ys := by rintro rfl; simp at hne
    simp only [run0, run1, run2, run3, run4, noSlot, ownS, ownK, memN, RO.dst, lk, drop, forget, number, Nat.reduceBEq, cut?, splice?, builds, List.length_cons, List.length_nil, List.drop_succ_cons, List.drop_zero, List.take_succ_cons, List.take_zero, List.cons_append, List.nil_append, List.append_nil, List.drop_nil, List.take_nil, Nat.reduceAdd, Nat.reduceLeDiff, Nat.zero_add, Nat.add_zero, ↓reduceIte, Bool.not_true, Bool.not_false, decide_true, decide_false, eq_self, bne_self_eq_false, List.getElem?_cons_zero, List.getElem?_cons_succ, decide_eq_true_eq, Bool.false_eq_true, Bool.true_eq_false, reduceCtorEq, Nat.le_refl, this]
  · rename_i he
    have he : xs.length = ys.length := by simp at he; omega
    simp only [run0, run1, run2, run3, run4, noSlot, ownS, ownK, memN, RO.dst, lk, drop, forget, number, Nat.reduceBEq, cut?, splice?, builds, List.length_cons, List.length_nil, List.drop_succ_cons, List.drop_zero, List.take_succ_cons, List.take_zero, List.cons_append, List.nil_append, List.append_nil, List.drop_nil, List.take_nil, Nat.reduceAdd, Nat.reduceLeDiff, Nat.zero_add, Nat.add_zero, ↓reduceIte, Bool.not_true, Bool.not_false, decide_true, decide_false, eq_self, bne_self_eq_false, List.getElem?_cons_zero, List.getElem?_cons_succ, decide_eq_true_eq, Bool.false_eq_true, Bool.true_eq_false, reduceCtorEq, Nat.le_refl]
    have key := loop_allN (F := F) (Z := Z) (live := [0, 1, 5]) (b := r48L0) xs.length (fun i => ⟨[(0, .c x), (1, .c y), (5, .c (.int .i64 (i : Nat)))], [], [], h⟩) (fun i => decide (xs[i]? = ys[i]?)) (fun s => lk s.env 4 = some (.c (.bool false)) ∧ s.hp = h) fun i hi => by
      have hi' : i < ys.length := by omega
      have hlt : (i : Int) < xs.length := by omega
      rw [loop_run]
      simp only [r48L0, run0, run1, run2, run3, run4, noSlot, ownS, ownK, memN, RO.dst, lk, drop, forget, number, Nat.reduceBEq, cut?, splice?, builds, List.length_cons, List.length_nil, List.drop_succ_cons, List.drop_zero, List.take_succ_cons, List.take_zero, List.cons_append, List.nil_append, List.append_nil, List.drop_nil, List.take_nil, Nat.reduceAdd, Nat.reduceLeDiff, Nat.zero_add, Nat.add_zero, ↓reduceIte, Bool.not_true, Bool.not_false, decide_true, decide_false, eq_self, bne_self_eq_false, List.getElem?_cons_zero, List.getElem?_cons_succ, decide_eq_true_eq, Bool.false_eq_true, Bool.true_eq_false, reduceCtorEq, Nat.le_refl, w.len, hlt, w.idx hi, v.idx hi', w.load hi, v.load hi', Request.len, Request.tak, eqRequest_run hL, wrapS i (by omega)]
      rw [List.getElem?_eq_getElem hi, List.getElem?_eq_getElem hi']
      (repeat' ((first | (rw [gF_if]; split) | (rw [condC_if]; split) | (rw [pickR_if]; split)) <;> (rename_i hh; (try simp only [Bool.not_eq_true, decide_eq_true_eq] at hh); simp only [hh, run0, run1, run2, run3, run4, noSlot, ownS, ownK, memN, RO.dst, lk, drop, forget, number, Nat.reduceBEq, cut?, splice?, builds, List.length_cons, List.length_nil, List.drop_succ_cons, List.drop_zero, List.take_succ_cons, List.take_zero, List.cons_append, List.nil_append, List.append_nil, List.drop_nil, List.take_nil, Nat.reduceAdd, Nat.reduceLeDiff, Nat.zero_add, Nat.add_zero, ↓reduceIte, Bool.not_true, Bool.not_false, decide_true, decide_false, eq_self, bne_self_eq_false, List.getElem?_cons_zero, List.getElem?_cons_succ, decide_eq_true_eq, Bool.false_eq_true, Bool.true_eq_false, reduceCtorEq, Nat.le_refl, wrapS i (by omega)])))
      · exact .inr ⟨by simp_all, _, rfl, rfl, rfl⟩
      · exact .inl ⟨by simp_all, rfl⟩
    rw [all_same he] at key
    rcases key with ⟨k1, k2⟩ | ⟨k1, s, k2, k3, k4⟩
    · simp only [show ((0 : Nat) : Int) = 0 from rfl] at k2
      rw [k2, loop_run]
      have hlt : ¬ (xs.length : Int) < xs.length := by omega
      simp only [r48L0, run0, run1, run2, run3, run4, noSlot, ownS, ownK, memN, RO.dst, lk, drop, forget, number, Nat.reduceBEq, cut?, splice?, builds, List.length_cons, List.length_nil, List.drop_succ_cons, List.drop_zero, List.take_succ_cons, List.take_zero, List.cons_append, List.nil_append, List.append_nil, List.drop_nil, List.take_nil, Nat.reduceAdd, Nat.reduceLeDiff, Nat.zero_add, Nat.add_zero, ↓reduceIte, Bool.not_true, Bool.not_false, decide_true, decide_false, eq_self, bne_self_eq_false, List.getElem?_cons_zero, List.getElem?_cons_succ, decide_eq_true_eq, Bool.false_eq_true, Bool.true_eq_false, reduceCtorEq, Nat.le_refl, w.len, hlt, k1]
    · simp only [show ((0 : Nat) : Int) = 0 from rfl] at k2
      rw [k2]
      simp only [run0, run1, run2, run3, run4, noSlot, ownS, ownK, memN, RO.dst, lk, drop, forget, number, Nat.reduceBEq, cut?, splice?, builds, List.length_cons, List.length_nil, List.drop_succ_cons, List.drop_zero, List.take_succ_cons, List.take_zero, List.cons_append, List.nil_append, List.append_nil, List.drop_nil, List.take_nil, Nat.reduceAdd, Nat.reduceLeDiff, Nat.zero_add, Nat.add_zero, ↓reduceIte, Bool.not_true, Bool.not_false, decide_true, decide_false, eq_self, bne_self_eq_false, List.getElem?_cons_zero, List.getElem?_cons_succ, decide_eq_true_eq, Bool.false_eq_true, Bool.true_eq_false, reduceCtorEq, Nat.le_refl, k3, k4, k1]
/-- What is written to mark one. -/
def Request.mk_ (k : Int) : Request := ⟨k, k + 1, k + 1 + 1, k + 1 + 1 + 1, k + 1 + 1 + 1 + 1⟩
def Request.marks (n : Nat) (k : Int) : List Request := (List.range n).map fun i : Nat => Request.mk_ (k + 5 * (i : Int))
theorem Request.marks_len (n : Nat) (k : Int) : (Request.marks n k).length = n := by simp [Request.marks]
set_option maxHeartbeats 1000000 in
theorem markRequestS_run (hL : Has F tLRequest) (w : SlR 3 (Fl Request.enc) h x xs fp) (hlo : ∀ id, id ∈ fp → h.floor ≤ id) (k : Int) (h1 : 0 ≤ k) (h2 : k + 5 * xs.length ≤ 9200000000000000000) :
    ∃ h', call F Z 49 [.c x, .c (.int .i64 k)] h = some (.c (.int .i64 (k + 5 * xs.length)), h') ∧ Mk h h' fp ∧ SlR 3 (Fl Request.enc) h' x (Request.marks xs.length k) fp := by
  have hle := w.le2
  have hlm := Request.marks_len xs.length k
  rw [call_run F Z (hL.lk (g := 49) rfl) _ _ rfl]
  simp only [run0, run1, run2, run3, run4, noSlot, ownS, ownK, memN, RO.dst, lk, drop, forget, number, Nat.reduceBEq, cut?, splice?, builds, List.length_cons, List.length_nil, List.drop_succ_cons, List.drop_zero, List.take_succ_cons, List.take_zero, List.cons_append, List.nil_append, List.append_nil, List.drop_nil, List.take_nil, Nat.reduceAdd, Nat.reduceLeDiff, Nat.zero_add, Nat.add_zero, ↓reduceIte, Bool.not_true, Bool.not_false, decide_true, decide_false, eq_self, bne_self_eq_false, List.getElem?_cons_zero, List.getElem?_cons_succ, decide_eq_true_eq, Bool.false_eq_true, Bool.true_eq_false, reduceCtorEq, Nat.le_refl]
  rcases w.flat with ⟨rfl, rfl, rfl⟩ | ⟨hx, hg, hn, rfl⟩
  · rw [loop_run]
    simp only [r49L0, run0, run1, run2, run3, run4, noSlot, ownS, ownK, memN, RO.dst, lk, drop, forget, number, Nat.reduceBEq, cut?, splice?, builds, List.length_cons, List.length_nil, List.drop_succ_cons, List.drop_zero, List.take_succ_cons, List.take_zero, List.cons_append, List.nil_append, List.append_nil, List.drop_nil, List.take_nil, Nat.reduceAdd, Nat.reduceLeDiff, Nat.zero_add, Nat.add_zero, ↓reduceIte, Bool.not_true, Bool.not_false, decide_true, decide_false, eq_self, bne_self_eq_false, List.getElem?_cons_zero, List.getElem?_cons_succ, decide_eq_true_eq, Bool.false_eq_true, Bool.true_eq_false, reduceCtorEq, Nat.le_refl, show ¬ ((0 : Int) < 0) from by omega]
    exact ⟨h, by simp, Mk.refl _ _, by simpa [Request.marks] using w⟩
  · have hfl : h.floor ≤ x.sid := hlo _ (by simp)
    have key : loop F Z [0, 1, 5] r49L0 ⟨[(0, .c x), (1, .c (.int .i64 (k + 5 * (0 : Nat)))), (5, .c (.int .i64 (0 : Nat)))], [], [], h.put x.sid (mixR Request.enc (Request.marks xs.length k) xs 0)⟩ = loop F Z [0, 1, 5] r49L0 ⟨[(0, .c x), (1, .c (.int .i64 (k + 5 * (xs.length : Nat)))), (5, .c (.int .i64 (xs.length : Nat)))], [], [], h.put x.sid (mixR Request.enc (Request.marks xs.length k) xs xs.length)⟩ :=
      loop_goesF xs.length (fun i => ⟨[(0, .c x), (1, .c (.int .i64 (k + 5 * (i : Nat)))), (5, .c (.int .i64 (i : Nat)))], [], [], h.put x.sid (mixR Request.enc (Request.marks xs.length k) xs i)⟩) fun i hi => by
        have hlt : (i : Int) < xs.length := by omega
        have hi2 : i < (mixR Request.enc (Request.marks xs.length k) xs i).length := by rw [mixR_len _ hlm]; exact hi
        have hms : (Request.marks xs.length k)[i]'(by omega) = Request.mk_ (k + 5 * i) := by simp [Request.marks]
        have hset := mixR_set Request.enc hlm hi
        rw [hms] at hset
        have hput := storeP_put (h := h) hfl hi2
        rw [← mixR_cur Request.enc hlm hi, ← hset, loop_run]
        simp (disch := omega) only [r49L0, run0, run1, run2, run3, run4, noSlot, ownS, ownK, memN, RO.dst, lk, drop, forget, number, Nat.reduceBEq, cut?, splice?, builds, List.length_cons, List.length_nil, List.drop_succ_cons, List.drop_zero, List.take_succ_cons, List.take_zero, List.cons_append, List.nil_append, List.append_nil, List.drop_nil, List.take_nil, Nat.reduceAdd, Nat.reduceLeDiff, Nat.zero_add, Nat.add_zero, ↓reduceIte, Bool.not_true, Bool.not_false, decide_true, decide_false, eq_self, bne_self_eq_false, List.getElem?_cons_zero, List.getElem?_cons_succ, decide_eq_true_eq, Bool.false_eq_true, Bool.true_eq_false, reduceCtorEq, Nat.le_refl, w.len, hlt, w.idx hi, hput, putM_s, wrapI1, wrapU1, Request.enc, Int.reduceEq, Request.mk_]
        rw [show k + 5 * ((i : Nat) : Int) + 1 + 1 + 1 + 1 + 1 = k + 5 * ((i + 1 : Nat) : Int) from by omega, show ((i : Nat) : Int) + 1 = ((i + 1 : Nat) : Int) from rfl]
    rw [mixR_0, put_same hg, mixR_n _ hlm] at key
    simp only [show ((0 : Nat) : Int) = 0 from rfl, Int.mul_zero, Int.add_zero] at key
    rw [key, loop_run]
    have hlt : ¬ (xs.length : Int) < xs.length := by omega
    simp only [r49L0, run0, run1, run2, run3, run4, noSlot, ownS, ownK, memN, RO.dst, lk, drop, forget, number, Nat.reduceBEq, cut?, splice?, builds, List.length_cons, List.length_nil, List.drop_succ_cons, List.drop_zero, List.take_succ_cons, List.take_zero, List.cons_append, List.nil_append, List.append_nil, List.drop_nil, List.take_nil, Nat.reduceAdd, Nat.reduceLeDiff, Nat.zero_add, Nat.add_zero, ↓reduceIte, Bool.not_true, Bool.not_false, decide_true, decide_false, eq_self, bne_self_eq_false, List.getElem?_cons_zero, List.getElem?_cons_succ, decide_eq_true_eq, Bool.false_eq_true, Bool.true_eq_false, reduceCtorEq, Nat.le_refl, w.len, hlt]
    refine ⟨_, rfl, Mk.put _ _ _, ?_⟩
    have := SlR.ofFlat (tag := 3) (h := h.put x.sid ((Request.marks xs.length k).map Request.enc)) (enc := Request.enc) (xs := Request.marks xs.length k) (id := x.sid) (by rw [hlm]; exact w.le) (by simp [Heap.put]) hn
    rw [hlm, ← hx] at this
    exact this
set_option maxHeartbeats 1000000 in
theorem heldRequestS_run (hL : Has F tLRequest) {n : Nat} {k : Int} (w : SlR 3 (Fl Request.enc) h x (Request.marks n k) fp) (h1 : 0 ≤ k) (h2 : k + 5 * n ≤ 9200000000000000000) :
    call F Z 50 [.c x, .c (.int .i64 k)] h = some (.c (.int .i64 (k + 5 * n)), h) := by
  have hle := w.le2
  have hwl := w.len
  rw [Request.marks_len] at hle hwl
  rw [call_run F Z (hL.lk (g := 50) rfl) _ _ rfl]
  simp only [run0, run1, run2, run3, run4, noSlot, ownS, ownK, memN, RO.dst, lk, drop, forget, number, Nat.reduceBEq, cut?, splice?, builds, List.length_cons, List.length_nil, List.drop_succ_cons, List.drop_zero, List.take_succ_cons, List.take_zero, List.cons_append, List.nil_append, List.append_nil, List.drop_nil, List.take_nil, Nat.reduceAdd, Nat.reduceLeDiff, Nat.zero_add, Nat.add_zero, ↓reduceIte, Bool.not_true, Bool.not_false, decide_true, decide_false, eq_self, bne_self_eq_false, List.getElem?_cons_zero, List.getElem?_cons_succ, decide_eq_true_eq, Bool.false_eq_true, Bool.true_eq_false, reduceCtorEq, Nat.le_refl]
  have key : loop F Z [0, 1, 5] r50L0 ⟨[(0, .c x), (1, .c (.int .i64 (k + 5 * (0 : Nat)))), (5, .c (.int .i64 (0 : Nat)))], [], [], h⟩ = loop F Z [0, 1, 5] r50L0 ⟨[(0, .c x), (1, .c (.int .i64 (k + 5 * (n : Nat)))), (5, .c (.int .i64 (n : Nat)))], [], [], h⟩ :=
    loop_goesF n (fun i => ⟨[(0, .c x), (1, .c (.int .i64 (k + 5 * (i : Nat)))), (5, .c (.int .i64 (i : Nat)))], [], [], h⟩) fun i hi0 => by
      have hi : i < (Request.marks n k).length := by rw [Request.marks_len]; exact hi0
      have hlt : (i : Int) < n := by omega
      have hms : (Request.marks n k)[i] = Request.mk_ (k + 5 * i) := by simp [Request.marks]
      have hld := w.load hi
      rw [hms] at hld
      rw [loop_run]
      simp (disch := omega) only [r50L0, run0, run1, run2, run3, run4, noSlot, ownS, ownK, memN, RO.dst, lk, drop, forget, number, Nat.reduceBEq, cut?, splice?, builds, List.length_cons, List.length_nil, List.drop_succ_cons, List.drop_zero, List.take_succ_cons, List.take_zero, List.cons_append, List.nil_append, List.append_nil, List.drop_nil, List.take_nil, Nat.reduceAdd, Nat.reduceLeDiff, Nat.zero_add, Nat.add_zero, ↓reduceIte, Bool.not_true, Bool.not_false, decide_true, decide_false, eq_self, bne_self_eq_false, List.getElem?_cons_zero, List.getElem?_cons_succ, decide_eq_true_eq, Bool.false_eq_true, Bool.true_eq_false, reduceCtorEq, Nat.le_refl, hwl, hlt, w.idx hi, hld, wrapI1, wrapU1, Request.enc, Request.mk_, Int.reduceEq]
      rw [show k + 5 * ((i : Nat) : Int) + 1 + 1 + 1 + 1 + 1 = k + 5 * ((i + 1 : Nat) : Int) from by omega, show ((i : Nat) : Int) + 1 = ((i + 1 : Nat) : Int) from rfl]
  simp only [show ((0 : Nat) : Int) = 0 from rfl, Int.mul_zero, Int.add_zero] at key
  rw [key, loop_run]
  have hlt : ¬ (n : Int) < n := by omega
  simp only [r50L0, run0, run1, run2, run3, run4, noSlot, ownS, ownK, memN, RO.dst, lk, drop, forget, number, Nat.reduceBEq, cut?, splice?, builds, List.length_cons, List.length_nil, List.drop_succ_cons, List.drop_zero, List.take_succ_cons, List.take_zero, List.cons_append, List.nil_append, List.append_nil, List.drop_nil, List.take_nil, Nat.reduceAdd, Nat.reduceLeDiff, Nat.zero_add, Nat.add_zero, ↓reduceIte, Bool.not_true, Bool.not_false, decide_true, decide_false, eq_self, bne_self_eq_false, List.getElem?_cons_zero, List.getElem?_cons_succ, decide_eq_true_eq, Bool.false_eq_true, Bool.true_eq_false, reduceCtorEq, Nat.le_refl, hwl, hlt]
end
end Go.Proofs.Ytlbagejkjkfkjaa.A
/- The compact code of some functions: laws.szClient, laws.toClient, laws.eqClient, laws.markClient, laws.heldClient. -/
namespace Go.Proofs.Ytlbagejkjkfkjaa.A
open Go
/-- laws.szClient -/
def r76 : RF :=
 ⟨2, [.tmp 4],
 .seq (.reg [⟨none, .locb 2 (.t 0)⟩,
  ⟨none, .mov 4 (.k (.int .i64 0))⟩])
 (.seq (.reg [⟨none, .fad 5 2 2⟩,
  ⟨none, .load 6 5 5 true⟩,
  ⟨none, .mov 7 (.t 1)⟩,
  ⟨none, .call (some 8) 67 [(.t 6), (.t 7)] false⟩,
  ⟨none, .mov 1 (.t 8)⟩])
 (.seq (.seq (.reg [⟨none, .mov 9 (.t 1)⟩,
   ⟨none, .bin 10 .lss (.t 9) (.k (.int .i64 0))⟩])
  (.cond (.t 10)
  (.seq (.reg [⟨none, .mov 4 (.k (.int .i64 (-1)))⟩])
   (.ret))
  (.skip)))
 (.seq (.reg [⟨none, .mov 11 (.t 1)⟩,
  ⟨none, .mov 4 (.t 11)⟩])
 (.ret))))⟩
/-- laws.toClient -/
def r77 : RF :=
 ⟨1, [.cell 2 14 true],
 .seq (.reg [⟨none, .locb 1 (.t 0)⟩,
  ⟨none, .loc 2 [.int .i64 0, .int .i64 0, .int .i64 0, .nil, .bool false, .int .u64 0, .int .i64 0, .bool false, .int .i64 0, .int .i64 0, .int .i64 0, .int .u64 0, .int .u64 0, .int .i64 0]⟩])
 (.seq (.reg [⟨none, .loc 3 [.int .i64 0, .int .i64 0, .int .i64 0, .nil, .bool false, .int .u64 0, .int .i64 0, .bool false, .int .i64 0, .int .i64 0, .int .i64 0, .int .u64 0, .int .u64 0, .int .i64 0]⟩])
 (.seq (.reg [⟨none, .fad 4 1 0⟩,
  ⟨none, .load 5 4 1 false⟩,
  ⟨none, .fad 6 3 0⟩,
  ⟨none, .store 6 1 (.t 5)⟩])
 (.seq (.reg [⟨none, .fad 7 1 1⟩,
  ⟨none, .load 8 7 1 false⟩,
  ⟨none, .fad 9 3 1⟩,
  ⟨none, .store 9 1 (.t 8)⟩])
 (.seq (.reg [⟨none, .fad 10 1 2⟩,
  ⟨none, .load 11 10 5 true⟩,
  ⟨none, .call (some 12) 68 [(.t 11)] false⟩,
  ⟨none, .fad 13 3 2⟩,
  ⟨none, .store 13 5 (.t 12)⟩])
 (.seq (.reg [⟨none, .fad 14 1 7⟩,
  ⟨none, .load 15 14 1 false⟩,
  ⟨none, .fad 16 3 7⟩,
  ⟨none, .store 16 1 (.t 15)⟩])
 (.seq (.reg [⟨none, .fad 17 1 8⟩,
  ⟨none, .load 18 17 1 false⟩,
  ⟨none, .fad 19 3 8⟩,
  ⟨none, .store 19 1 (.t 18)⟩])
 (.seq (.reg [⟨none, .fad 20 1 9⟩,
  ⟨none, .load 21 20 5 true⟩,
  ⟨none, .call (some 22) 109 [(.t 21)] false⟩,
  ⟨none, .fad 23 3 9⟩,
  ⟨none, .store 23 5 (.t 22)⟩])
 (.seq (.reg [⟨none, .load 24 3 14 true⟩,
  ⟨none, .store 2 14 (.t 24)⟩])
 (.ret)))))))))⟩
/-- laws.eqClient -/
def r80 : RF :=
 ⟨2, [.tmp 4],
 .seq (.reg [⟨none, .locb 2 (.t 0)⟩,
  ⟨none, .locb 3 (.t 1)⟩,
  ⟨none, .mov 4 (.k (.bool false))⟩])
 (.seq (.seq (.reg [⟨none, .fad 5 2 0⟩,
   ⟨none, .load 6 5 1 false⟩,
   ⟨none, .fad 7 3 0⟩,
   ⟨none, .load 8 7 1 false⟩,
   ⟨none, .bin 9 .neq (.t 6) (.t 8)⟩])
  (.cond (.t 9)
  (.seq (.reg [⟨none, .mov 4 (.k (.bool false))⟩])
   (.ret))
  (.skip)))
 (.seq (.seq (.reg [⟨none, .fad 10 2 1⟩,
   ⟨none, .load 11 10 1 false⟩,
   ⟨none, .fad 12 3 1⟩,
   ⟨none, .load 13 12 1 false⟩,
   ⟨none, .bin 14 .neq (.t 11) (.t 13)⟩])
  (.cond (.t 14)
  (.seq (.reg [⟨none, .mov 4 (.k (.bool false))⟩])
   (.ret))
  (.skip)))
 (.seq (.seq (.reg [⟨none, .fad 15 2 2⟩,
   ⟨none, .load 16 15 5 true⟩,
   ⟨none, .fad 17 3 2⟩,
   ⟨none, .load 18 17 5 true⟩,
   ⟨none, .call (some 19) 71 [(.t 16), (.t 18)] false⟩,
   ⟨none, .not 20 (.t 19)⟩])
  (.cond (.t 20)
  (.seq (.reg [⟨none, .mov 4 (.k (.bool false))⟩])
   (.ret))
  (.skip)))
 (.seq (.seq (.reg [⟨none, .fad 21 2 7⟩,
   ⟨none, .load 22 21 1 false⟩,
   ⟨none, .fad 23 3 7⟩,
   ⟨none, .load 24 23 1 false⟩,
   ⟨none, .beq 25 true (.t 22) (.t 24)⟩])
  (.cond (.t 25)
  (.seq (.reg [⟨none, .mov 4 (.k (.bool false))⟩])
   (.ret))
  (.skip)))
 (.seq (.seq (.reg [⟨none, .fad 26 2 8⟩,
   ⟨none, .load 27 26 1 false⟩,
   ⟨none, .fad 28 3 8⟩,
   ⟨none, .load 29 28 1 false⟩,
   ⟨none, .bin 30 .neq (.t 27) (.t 29)⟩])
  (.cond (.t 30)
  (.seq (.reg [⟨none, .mov 4 (.k (.bool false))⟩])
   (.ret))
  (.skip)))
 (.seq (.seq (.reg [⟨none, .fad 31 2 9⟩,
   ⟨none, .load 32 31 5 true⟩,
   ⟨none, .fad 33 3 9⟩,
   ⟨none, .load 34 33 5 true⟩,
   ⟨none, .call (some 35) 99 [(.t 32), (.t 34)] false⟩,
   ⟨none, .not 36 (.t 35)⟩])
  (.cond (.t 36)
  (.seq (.reg [⟨none, .mov 4 (.k (.bool false))⟩])
   (.ret))
  (.skip)))
 (.seq (.reg [⟨none, .mov 4 (.k (.bool true))⟩])
 (.ret))))))))⟩
/-- laws.markClient -/
def r95 : RF :=
 ⟨2, [.tmp 4],
 .seq (.reg [⟨none, .locb 2 (.t 0)⟩,
  ⟨none, .mov 4 (.k (.int .i64 0))⟩])
 (.seq (.reg [⟨none, .fad 5 2 2⟩,
  ⟨none, .load 6 5 5 true⟩,
  ⟨none, .mov 7 (.t 1)⟩,
  ⟨none, .call (some 8) 94 [(.t 6), (.t 7)] false⟩,
  ⟨none, .mov 1 (.t 8)⟩])
 (.seq (.reg [⟨none, .mov 9 (.t 1)⟩,
  ⟨none, .mov 4 (.t 9)⟩])
 (.ret)))⟩
/-- laws.heldClient -/
def r96 : RF :=
 ⟨2, [.tmp 4],
 .seq (.reg [⟨none, .locb 2 (.t 0)⟩,
  ⟨none, .mov 4 (.k (.int .i64 0))⟩])
 (.seq (.reg [⟨none, .fad 5 2 2⟩,
  ⟨none, .load 6 5 5 true⟩,
  ⟨none, .mov 7 (.t 1)⟩,
  ⟨none, .call (some 8) 118 [(.t 6), (.t 7)] false⟩,
  ⟨none, .mov 1 (.t 8)⟩])
 (.seq (.seq (.reg [⟨none, .mov 9 (.t 1)⟩,
   ⟨none, .bin 10 .lss (.t 9) (.k (.int .i64 0))⟩])
  (.cond (.t 10)
  (.seq (.reg [⟨none, .mov 4 (.k (.int .i64 (-1)))⟩])
   (.ret))
  (.skip)))
 (.seq (.reg [⟨none, .mov 11 (.t 1)⟩,
  ⟨none, .mov 4 (.t 11)⟩])
 (.ret))))⟩
/-- The functions of this text, with their numbers. -/
def tLClient : List (Nat × RF) := [(76, r76), (77, r77), (80, r80), (95, r95), (96, r96)]
end Go.Proofs.Ytlbagejkjkfkjaa.A
/- The data of a Client with its memory, and what its converters compute. -/
namespace Go.Proofs.Ytlbagejkjkfkjaa.A
open Go
set_option linter.unusedSimpArgs false
set_option linter.unusedVariables false
structure Client where
  id : Int
  seq : Int
  chart : Chart
  busy : Bool
  tries : Int
  ask : Request
  deriving DecidableEq
def Client.RL : Rel Client := fun h cs t fp => ∃ x1 p1, cs = [.int .i64 t.id, .int .i64 t.seq, .int .i64 t.chart.epoch, x1, .bool t.chart.moving, .int .u64 t.chart.lo, .int .i64 t.chart.to, .bool t.busy, .int .i64 t.tries, .int .i64 t.ask.epoch, .int .i64 t.ask.op, .int .u64 t.ask.id, .int .u64 t.ask.amount, .int .i64 t.ask.tx] ∧ fp = p1 ∧ SlR 8 (Fl Range.enc) h x1 t.chart.ranges p1
theorem Client.okL : RelOk Client.RL where
  lt := by
    rintro h cs t fp ⟨x1, p1, rfl, rfl, w1⟩ id hid
    exact w1.lt (Fl.ok _) id hid
  mv := by
    rintro h h' cs t fp ⟨x1, p1, rfl, rfl, w1⟩ hn hg
    exact ⟨x1, _, rfl, rfl, w1.mv (Fl.ok _) hn hg⟩
def Client.RI : Rel Client := fun h cs t fp => ∃ x1 p1, cs = [.int .i64 t.id, .int .i64 t.seq, .int .i64 t.chart.epoch, x1, .bool t.chart.moving, .int .u64 t.chart.lo, .int .i64 t.chart.to, .bool t.busy, .int .i64 t.tries, .int .i64 t.ask.epoch, .int .i64 t.ask.op, .int .u64 t.ask.id, .int .u64 t.ask.amount, .int .i64 t.ask.tx] ∧ fp = p1 ∧ SlR 7 (Fl Range.enc) h x1 t.chart.ranges p1
theorem Client.okI : RelOk Client.RI where
  lt := by
    rintro h cs t fp ⟨x1, p1, rfl, rfl, w1⟩ id hid
    exact w1.lt (Fl.ok _) id hid
  mv := by
    rintro h h' cs t fp ⟨x1, p1, rfl, rfl, w1⟩ hn hg
    exact ⟨x1, _, rfl, rfl, w1.mv (Fl.ok _) hn hg⟩
theorem Client.lenL {h : Heap} {cs : List Cell} {t : Client} {fp : List Nat} (v : Client.RL h cs t fp) : cs.length = 14 ∧ cs.take 14 = cs ∧ cs.drop 14 = [] := by
  obtain ⟨x1, p1, rfl, _⟩ := v
  exact ⟨rfl, rfl, rfl⟩
theorem Client.lenI {h : Heap} {cs : List Cell} {t : Client} {fp : List Nat} (v : Client.RI h cs t fp) : cs.length = 14 ∧ cs.take 14 = cs ∧ cs.drop 14 = [] := by
  obtain ⟨x1, p1, rfl, _⟩ := v
  exact ⟨rfl, rfl, rfl⟩
namespace Client
/-- The numbers are those of the machine. -/
structure Ok (t : Client) : Prop where
  id : -9223372036854775808 ≤ t.id ∧ t.id ≤ 9223372036854775807
  seq : -9223372036854775808 ≤ t.seq ∧ t.seq ≤ 9223372036854775807
  chart : t.chart.Ok
  tries : -9223372036854775808 ≤ t.tries ∧ t.tries ≤ 9223372036854775807
  ask : t.ask.Ok
def Small (t : Client) : Prop := t.chart.Small
def wt (t : Client) : Int := t.chart.wt
def marked (t : Client) (k : Int) : Client := { t with chart := t.chart.marked (k) }
theorem wt_nn (t : Client) : 0 ≤ t.wt := by
  have := t.chart.wt_nn
  simp only [wt]; omega
theorem wt_le {t : Client} (sm : t.Small) : t.wt ≤ 3145728 := by
  unfold Small at sm
  have := Chart.wt_le sm
  simp only [wt]; omega
end Client
theorem Wf.isClient {h : Heap} {n : Nat} {cs : List Cell} (w : Wf h (n + 5) shClient cs) : ∃ t fp, Client.RL h cs t fp ∧ t.Ok := by
  obtain ⟨_, _, rfl, _, ⟨i1, rfl, j1⟩, _, _, rfl, _, ⟨i2, rfl, j2⟩, _, _, rfl, _, ⟨_, _, rfl, _, ⟨i3, rfl, j3⟩, _, _, rfl, _, m4, _, _, rfl, _, ⟨b5, rfl⟩, _, _, rfl, _, ⟨i6, rfl, j6⟩, _, _, rfl, _, ⟨i7, rfl, j7⟩, rfl⟩, _, _, rfl, _, ⟨b8, rfl⟩, _, _, rfl, _, ⟨i9, rfl, j9⟩, _, _, rfl, _, ⟨_, _, rfl, _, ⟨i10, rfl, j10⟩, _, _, rfl, _, ⟨i11, rfl, j11⟩, _, _, rfl, _, ⟨i12, rfl, j12⟩, _, _, rfl, _, ⟨i13, rfl, j13⟩, _, _, rfl, _, ⟨i14, rfl, j14⟩, rfl⟩, rfl⟩ := w
  obtain ⟨x1, l1, p1, rfl, w1, o1⟩ := Wf.isRangeS' m4
  exact ⟨⟨i1, i2, ⟨i3, l1, b5, i6, i7⟩, b8, i9, ⟨i10, i11, i12, i13, i14⟩⟩, _, ⟨x1, _, rfl, rfl, w1⟩, ⟨wfI j1, wfI j2, ⟨wfI j3, o1, wfU j6, wfI j7⟩, wfI j9, ⟨wfI j10, wfI j11, wfU j12, wfU j13, wfI j14⟩⟩⟩
section
variable {F : Nat → Option RF} {Z : CallF} {h : Heap} {cs cs' : List Cell} {t u : Client} {fp fq : List Nat}
theorem szClient_c (hLClient : Has F tLClient) (hLChart : Has F tLChart) (hLRange : Has F tLRange) (hLRequest : Has F tLRequest) (v : Client.RL h cs t fp) (left : Int) (h1 : 0 ≤ left) (h2 : left ≤ 1048576) : ∃ r, call F Z 76 [.agg cs, .c (.int .i64 left)] h = some (.c (.int .i64 r), h) ∧ r ≤ left ∧ (0 ≤ r → t.Small) := by
  obtain ⟨x1, p1, rfl, rfl, w1⟩ := v
  rw [call_run F Z (hLClient.lk (g := 76) rfl) _ _ rfl]
  simp only [run0, run1, run2, run3, run4, noSlot, ownS, ownK, memN, RO.dst, lk, drop, forget, number, Nat.reduceBEq, cut?, splice?, builds, List.length_cons, List.length_nil, List.drop_succ_cons, List.drop_zero, List.take_succ_cons, List.take_zero, List.cons_append, List.nil_append, List.append_nil, List.drop_nil, List.take_nil, Nat.reduceAdd, Nat.reduceLeDiff, Nat.zero_add, Nat.add_zero, ↓reduceIte, Bool.not_true, Bool.not_false, decide_true, decide_false, eq_self, bne_self_eq_false, List.getElem?_cons_zero, List.getElem?_cons_succ, decide_eq_true_eq, Bool.false_eq_true, Bool.true_eq_false, reduceCtorEq, Nat.le_refl]
  obtain ⟨l0, s0, a0, b0⟩ := szChart_c (Z := Z) hLChart hLRange (⟨x1, _, rfl, rfl, w1⟩ : Chart.RL _ _ _ _) left (by omega) (by omega)
  simp only [run0, run1, run2, run3, run4, noSlot, ownS, ownK, memN, RO.dst, lk, drop, forget, number, Nat.reduceBEq, cut?, splice?, builds, List.length_cons, List.length_nil, List.drop_succ_cons, List.drop_zero, List.take_succ_cons, List.take_zero, List.cons_append, List.nil_append, List.append_nil, List.drop_nil, List.take_nil, Nat.reduceAdd, Nat.reduceLeDiff, Nat.zero_add, Nat.add_zero, ↓reduceIte, Bool.not_true, Bool.not_false, decide_true, decide_false, eq_self, bne_self_eq_false, List.getElem?_cons_zero, List.getElem?_cons_succ, decide_eq_true_eq, Bool.false_eq_true, Bool.true_eq_false, reduceCtorEq, Nat.le_refl, s0]
  by_cases n0 : l0 < 0
  · simp only [run0, run1, run2, run3, run4, noSlot, ownS, ownK, memN, RO.dst, lk, drop, forget, number, Nat.reduceBEq, cut?, splice?, builds, List.length_cons, List.length_nil, List.drop_succ_cons, List.drop_zero, List.take_succ_cons, List.take_zero, List.cons_append, List.nil_append, List.append_nil, List.drop_nil, List.take_nil, Nat.reduceAdd, Nat.reduceLeDiff, Nat.zero_add, Nat.add_zero, ↓reduceIte, Bool.not_true, Bool.not_false, decide_true, decide_false, eq_self, bne_self_eq_false, List.getElem?_cons_zero, List.getElem?_cons_succ, decide_eq_true_eq, Bool.false_eq_true, Bool.true_eq_false, reduceCtorEq, Nat.le_refl, n0]
    exact ⟨_, rfl, by omega, by omega⟩
  simp only [run0, run1, run2, run3, run4, noSlot, ownS, ownK, memN, RO.dst, lk, drop, forget, number, Nat.reduceBEq, cut?, splice?, builds, List.length_cons, List.length_nil, List.drop_succ_cons, List.drop_zero, List.take_succ_cons, List.take_zero, List.cons_append, List.nil_append, List.append_nil, List.drop_nil, List.take_nil, Nat.reduceAdd, Nat.reduceLeDiff, Nat.zero_add, Nat.add_zero, ↓reduceIte, Bool.not_true, Bool.not_false, decide_true, decide_false, eq_self, bne_self_eq_false, List.getElem?_cons_zero, List.getElem?_cons_succ, decide_eq_true_eq, Bool.false_eq_true, Bool.true_eq_false, reduceCtorEq, Nat.le_refl, n0]
  exact ⟨_, rfl, by omega, fun _ => b0 (by omega)⟩
theorem toClient_c (hLClient : Has F tLClient) (hLChart : Has F tLChart) (hLRange : Has F tLRange) (hLRequest : Has F tLRequest) (hf : h.floor ≤ h.next) (v : Client.RL h cs t fp) (sm : t.Small) : ∃ cs' h' fq, call F Z 77 [.agg cs] h = some (.agg cs', h') ∧ On h h' ∧ Client.RI h' cs' t fq ∧ Fre h fq := by
  obtain ⟨x1, p1, rfl, rfl, w1⟩ := v
  have sm0 := sm
  obtain ⟨_, g0, _, e0, o0, ⟨y1, q1, rfl, rfl, u1⟩, r0⟩ := toChart_c (Z := Z) hLChart hLRange hf (⟨x1, _, rfl, rfl, w1⟩ : Chart.RL _ _ _ _) sm0
  rw [call_run F Z (hLClient.lk (g := 77) rfl) _ _ rfl]
  simp only [run0, run1, run2, run3, run4, noSlot, ownS, ownK, memN, RO.dst, lk, drop, forget, number, Nat.reduceBEq, cut?, splice?, builds, List.length_cons, List.length_nil, List.drop_succ_cons, List.drop_zero, List.take_succ_cons, List.take_zero, List.cons_append, List.nil_append, List.append_nil, List.drop_nil, List.take_nil, Nat.reduceAdd, Nat.reduceLeDiff, Nat.zero_add, Nat.add_zero, ↓reduceIte, Bool.not_true, Bool.not_false, decide_true, decide_false, eq_self, bne_self_eq_false, List.getElem?_cons_zero, List.getElem?_cons_succ, decide_eq_true_eq, Bool.false_eq_true, Bool.true_eq_false, reduceCtorEq, Nat.le_refl, e0, toRequest_lit hLRequest]
  exact ⟨_, _, _, rfl, o0, ⟨y1, _, rfl, rfl, u1⟩, r0⟩
set_option maxHeartbeats 1000000 in
theorem eqClient_r (hLClient : Has F tLClient) (hLChart : Has F tLChart) (hLRange : Has F tLRange) (hLRequest : Has F tLRequest) (v : Client.RI h cs t fp) (v' : Client.RI h cs' u fq) : call F Z 80 [.agg cs, .agg cs'] h = some (.c (.bool (decide (t = u))), h) := by
  obtain ⟨x1, p1, rfl, rfl, w1⟩ := v
  obtain ⟨x1', p1', rfl, rfl, w1'⟩ := v'
  obtain ⟨id1, seq1, chart1, busy1, tries1, ask1⟩ := t
  obtain ⟨id2, seq2, chart2, busy2, tries2, ask2⟩ := u
  have e0 := eqChart_r (Z := Z) hLChart hLRange (⟨x1, _, rfl, rfl, w1⟩ : Chart.RI h _ chart1 _) (⟨x1', _, rfl, rfl, w1'⟩ : Chart.RI h _ chart2 _)
  cases ask1
  cases ask2
  clear w1 w1'
  rw [call_run F Z (hLClient.lk (g := 80) rfl) _ _ rfl]
  simp only [run0, run1, run2, run3, run4, noSlot, ownS, ownK, memN, RO.dst, lk, drop, forget, number, Nat.reduceBEq, cut?, splice?, builds, List.length_cons, List.length_nil, List.drop_succ_cons, List.drop_zero, List.take_succ_cons, List.take_zero, List.cons_append, List.nil_append, List.append_nil, List.drop_nil, List.take_nil, Nat.reduceAdd, Nat.reduceLeDiff, Nat.zero_add, Nat.add_zero, ↓reduceIte, Bool.not_true, Bool.not_false, decide_true, decide_false, eq_self, bne_self_eq_false, List.getElem?_cons_zero, List.getElem?_cons_succ, decide_eq_true_eq, Bool.false_eq_true, Bool.true_eq_false, reduceCtorEq, Nat.le_refl, e0, eqRequest_lit hLRequest]
  (repeat' ((first | (rw [gF_if]; split) | (rw [condC_if]; split) | (rw [pickR_if]; split)) <;> (rename_i hh; (try simp only [Bool.not_eq_true, decide_eq_true_eq] at hh); simp only [hh, run0, run1, run2, run3, run4, noSlot, ownS, ownK, memN, RO.dst, lk, drop, forget, number, Nat.reduceBEq, cut?, splice?, builds, List.length_cons, List.length_nil, List.drop_succ_cons, List.drop_zero, List.take_succ_cons, List.take_zero, List.cons_append, List.nil_append, List.append_nil, List.drop_nil, List.take_nil, Nat.reduceAdd, Nat.reduceLeDiff, Nat.zero_add, Nat.add_zero, ↓reduceIte, Bool.not_true, Bool.not_false, decide_true, decide_false, eq_self, bne_self_eq_false, List.getElem?_cons_zero, List.getElem?_cons_succ, decide_eq_true_eq, Bool.false_eq_true, Bool.true_eq_false, reduceCtorEq, Nat.le_refl, e0, eqRequest_lit hLRequest]))) <;> clear e0 <;> refine fin_bool ?_ <;> simp_all <;> (try (intros; omega))
theorem markClient_r (hLClient : Has F tLClient) (hLChart : Has F tLChart) (hLRange : Has F tLRange) (hLRequest : Has F tLRequest) (v : Client.RI h cs t fp) (nd : fp.Nodup) (hlo : ∀ id, id ∈ fp → h.floor ≤ id) (k : Int) (h1 : 0 ≤ k) (h2 : k + t.wt ≤ 9200000000000000000) : ∃ h', call F Z 95 [.agg cs, .c (.int .i64 k)] h = some (.c (.int .i64 (k + t.wt)), h') ∧ Mk h h' fp ∧ Client.RI h' cs (t.marked k) fp := by
  obtain ⟨x1, p1, rfl, rfl, w1⟩ := v
  simp only [Client.wt] at h2 ⊢
  obtain ⟨h', e0, m0, ⟨y1, q1, uc, rfl, u1⟩⟩ := markChart_r (Z := Z) hLChart hLRange (⟨x1, _, rfl, rfl, w1⟩ : Chart.RI _ _ _ _) nd hlo k h1 h2
  rw [call_run F Z (hLClient.lk (g := 95) rfl) _ _ rfl]
  simp only [run0, run1, run2, run3, run4, noSlot, ownS, ownK, memN, RO.dst, lk, drop, forget, number, Nat.reduceBEq, cut?, splice?, builds, List.length_cons, List.length_nil, List.drop_succ_cons, List.drop_zero, List.take_succ_cons, List.take_zero, List.cons_append, List.nil_append, List.append_nil, List.drop_nil, List.take_nil, Nat.reduceAdd, Nat.reduceLeDiff, Nat.zero_add, Nat.add_zero, ↓reduceIte, Bool.not_true, Bool.not_false, decide_true, decide_false, eq_self, bne_self_eq_false, List.getElem?_cons_zero, List.getElem?_cons_succ, decide_eq_true_eq, Bool.false_eq_true, Bool.true_eq_false, reduceCtorEq, Nat.le_refl, e0]
  refine ⟨_, rfl, m0, ⟨y1, _, ?_, rfl, u1⟩⟩
  simp_all [Client.marked, Chart.marked]
theorem heldClient_r (hLClient : Has F tLClient) (hLChart : Has F tLChart) (hLRange : Has F tLRange) (hLRequest : Has F tLRequest) {k : Int} (v : Client.RI h cs (t.marked k) fp) (h1 : 0 ≤ k) (h2 : k + t.wt ≤ 9200000000000000000) : call F Z 96 [.agg cs, .c (.int .i64 k)] h = some (.c (.int .i64 (k + t.wt)), h) := by
  obtain ⟨x1, p1, rfl, rfl, w1⟩ := v
  simp only [Client.wt] at h2 ⊢
  have e0 := heldChart_r (Z := Z) hLChart hLRange (t := t.chart) (⟨x1, _, rfl, rfl, w1⟩ : Chart.RI _ _ _ _) h1 h2
  have w0 := t.chart.wt_nn
  have n0 : ¬ k + t.chart.wt < 0 := by omega
  rw [call_run F Z (hLClient.lk (g := 96) rfl) _ _ rfl]
  simp only [Client.marked, run0, run1, run2, run3, run4, noSlot, ownS, ownK, memN, RO.dst, lk, drop, forget, number, Nat.reduceBEq, cut?, splice?, builds, List.length_cons, List.length_nil, List.drop_succ_cons, List.drop_zero, List.take_succ_cons, List.take_zero, List.cons_append, List.nil_append, List.append_nil, List.drop_nil, List.take_nil, Nat.reduceAdd, Nat.reduceLeDiff, Nat.zero_add, Nat.add_zero, ↓reduceIte, Bool.not_true, Bool.not_false, decide_true, decide_false, eq_self, bne_self_eq_false, List.getElem?_cons_zero, List.getElem?_cons_succ, decide_eq_true_eq, Bool.false_eq_true, Bool.true_eq_false, reduceCtorEq, Nat.le_refl] at e0 ⊢
  simp only [run0, run1, run2, run3, run4, noSlot, ownS, ownK, memN, RO.dst, lk, drop, forget, number, Nat.reduceBEq, cut?, splice?, builds, List.length_cons, List.length_nil, List.drop_succ_cons, List.drop_zero, List.take_succ_cons, List.take_zero, List.cons_append, List.nil_append, List.append_nil, List.drop_nil, List.take_nil, Nat.reduceAdd, Nat.reduceLeDiff, Nat.zero_add, Nat.add_zero, ↓reduceIte, Bool.not_true, Bool.not_false, decide_true, decide_false, eq_self, bne_self_eq_false, List.getElem?_cons_zero, List.getElem?_cons_succ, decide_eq_true_eq, Bool.false_eq_true, Bool.true_eq_false, reduceCtorEq, Nat.le_refl, e0, n0]
end
end Go.Proofs.Ytlbagejkjkfkjaa.A
/- What the functions of a client compute: is it right, and where it asks. -/
namespace Go.Proofs.Ytlbagejkjkfkjaa.A
open Go
set_option linter.unusedSimpArgs false
set_option linter.unusedVariables false
def Client.good (c : Client) : Bool := inR c.id 1 999 && (inR c.seq 0 1000000 && (c.chart.good && (bif c.busy then inR c.ask.op 0 8 && (c.ask.epoch == 0 && (inR c.tries 1 6 && decide (0 < c.seq))) else c.tries == 0 && decide (c.ask = Request.none_))))
def Client.where_ (c : Client) (id : Int) : Int := bif c.good then (c.chart.of_ id).group else -1
theorem request_eqs (e o i a t : Int) : eqsR false [.i .i64, .i .i64, .i .u64, .i .u64, .i .i64] (some (.agg [.int .i64 e, .int .i64 o, .int .u64 i, .int .u64 a, .int .i64 t])) (some (.agg [.int .i64 0, .int .i64 0, .int .u64 0, .int .u64 0, .int .i64 0])) = some (.bool (decide ((⟨e, o, i, a, t⟩ : Request) = Request.none_))) := by
  have hc : cellsEq? [.i .i64, .i .i64, .i .u64, .i .u64, .i .i64] [.int .i64 e, .int .i64 o, .int .u64 i, .int .u64 a, .int .i64 t] [.int .i64 0, .int .i64 0, .int .u64 0, .int .u64 0, .int .i64 0] = some (decide ((⟨e, o, i, a, t⟩ : Request) = Request.none_)) := by
    simp only [cellsEq?, eqK, and_self, if_true, Option.bind_some, Request.none_]
    cases h1 : (e == 0) <;> cases h2 : (o == 0) <;> cases h3 : (i == 0) <;> cases h4 : (a == 0) <;> cases h5 : (t == 0) <;> simp_all
  simp only [eqsR, List.length_cons, List.length_nil, and_self, if_true, hc, Option.bind_some, Bool.false_xor]
section
variable {F : Nat → Option RF} {Z : CallF} {h : Heap} {cs : List Cell} {c : Client} {fp : List Nat}
set_option maxHeartbeats 4000000 in
theorem isClient_run (hI11 : Has F tI11) (hI12 : Has F tI12) (hI16 : Has F tI16) (hLi : Has F tLibslicesIndexFuncimplRangeimplRange) (v : Client.RI h cs c fp) (ok : c.chart.Ok) : ∃ h', call F Z 110 [.agg cs] h = some (.c (.bool c.good), h') ∧ On h h' := by
  obtain ⟨x, p, rfl, rfl, w⟩ := v
  obtain ⟨h1, e1, o1⟩ := isChart_run (Z := Z) hI11 hI12 hLi (⟨x, _, rfl, rfl, w⟩ : Chart.RI h _ c.chart _) ok
  have o0 := On.refl h
  rw [call_run F Z (hI16.lk (g := 110) rfl) _ _ rfl]
  simp only [run0, run1, run2, run3, run4, noSlot, ownS, ownK, memN, RO.dst, lk, drop, forget, number, Nat.reduceBEq, cut?, splice?, builds, List.length_cons, List.length_nil, List.drop_succ_cons, List.drop_zero, List.take_succ_cons, List.take_zero, List.cons_append, List.nil_append, List.append_nil, List.drop_nil, List.take_nil, Nat.reduceAdd, Nat.reduceLeDiff, Nat.zero_add, Nat.add_zero, ↓reduceIte, Bool.not_true, Bool.not_false, decide_true, decide_false, eq_self, bne_self_eq_false, List.getElem?_cons_zero, List.getElem?_cons_succ, decide_eq_true_eq, Bool.false_eq_true, Bool.true_eq_false, reduceCtorEq, Nat.le_refl]
  clear w
  generalize hcg : c.chart.good = b at e1
  have hgd : c.good = (inR c.id 1 999 && (inR c.seq 0 1000000 && (b && (bif c.busy then inR c.ask.op 0 8 && (c.ask.epoch == 0 && (inR c.tries 1 6 && decide (0 < c.seq))) else c.tries == 0 && decide (c.ask = Request.none_))))) := by rw [← hcg]; rfl
  rw [hgd]
  clear hgd
  have hq := request_eqs c.ask.epoch c.ask.op c.ask.id c.ask.amount c.ask.tx
  (repeat' ((first | (rw [gF_if]; split) | (rw [condC_if]; split) | (rw [pickR_if]; split)) <;> (rename_i hh; (try simp only [Bool.not_eq_true, decide_eq_true_eq] at hh); simp only [hh, run0, run1, run2, run3, run4, noSlot, ownS, ownK, memN, RO.dst, lk, drop, forget, number, Nat.reduceBEq, cut?, splice?, builds, List.length_cons, List.length_nil, List.drop_succ_cons, List.drop_zero, List.take_succ_cons, List.take_zero, List.cons_append, List.nil_append, List.append_nil, List.drop_nil, List.take_nil, Nat.reduceAdd, Nat.reduceLeDiff, Nat.zero_add, Nat.add_zero, ↓reduceIte, Bool.not_true, Bool.not_false, decide_true, decide_false, eq_self, bne_self_eq_false, List.getElem?_cons_zero, List.getElem?_cons_succ, decide_eq_true_eq, Bool.false_eq_true, Bool.true_eq_false, reduceCtorEq, Nat.le_refl, e1, hq])))
  all_goals clear hq e1 hcg
  all_goals first
    | (refine ⟨_, ?_, o0⟩; clear o0 o1; simp_all [inR]; done)
    | (refine ⟨_, ?_, o0⟩; clear o0 o1; simp_all [inR]; intros; omega)
    | (refine ⟨_, ?_, o1⟩; clear o0 o1; simp_all [inR]; done)
    | (refine ⟨_, ?_, o1⟩; clear o0 o1; simp_all [inR]; intros; omega)
set_option maxHeartbeats 4000000 in
theorem sClientOk_run (hS : Has F tS01d) (hS11 : Has F tS11) (hS12 : Has F tS12) (hS16 : Has F tS16) (v : Client.RI h cs c fp) (ok : c.chart.Ok) : call F Z 78 [.agg cs] h = some (.c (.bool c.good), h) := by
  obtain ⟨x, p, rfl, rfl, w⟩ := v
  have e1 := sChartOk_run (Z := Z) hS hS11 hS12 (⟨x, _, rfl, rfl, w⟩ : Chart.RI h _ c.chart _) ok
  rw [call_run F Z (hS16.lk (g := 78) rfl) _ _ rfl]
  simp only [run0, run1, run2, run3, run4, noSlot, ownS, ownK, memN, RO.dst, lk, drop, forget, number, Nat.reduceBEq, cut?, splice?, builds, List.length_cons, List.length_nil, List.drop_succ_cons, List.drop_zero, List.take_succ_cons, List.take_zero, List.cons_append, List.nil_append, List.append_nil, List.drop_nil, List.take_nil, Nat.reduceAdd, Nat.reduceLeDiff, Nat.zero_add, Nat.add_zero, ↓reduceIte, Bool.not_true, Bool.not_false, decide_true, decide_false, eq_self, bne_self_eq_false, List.getElem?_cons_zero, List.getElem?_cons_succ, decide_eq_true_eq, Bool.false_eq_true, Bool.true_eq_false, reduceCtorEq, Nat.le_refl, l01In_run hS]
  clear w
  generalize hcg : c.chart.good = b at e1
  have hgd : c.good = (inR c.id 1 999 && (inR c.seq 0 1000000 && (b && (bif c.busy then inR c.ask.op 0 8 && (c.ask.epoch == 0 && (inR c.tries 1 6 && decide (0 < c.seq))) else c.tries == 0 && decide (c.ask = Request.none_))))) := by rw [← hcg]; rfl
  rw [hgd]
  clear hgd
  have hq := request_eqs c.ask.epoch c.ask.op c.ask.id c.ask.amount c.ask.tx
  (repeat' ((first | (rw [gF_if]; split) | (rw [condC_if]; split) | (rw [pickR_if]; split)) <;> (rename_i hh; (try simp only [Bool.not_eq_true, decide_eq_true_eq] at hh); simp only [hh, run0, run1, run2, run3, run4, noSlot, ownS, ownK, memN, RO.dst, lk, drop, forget, number, Nat.reduceBEq, cut?, splice?, builds, List.length_cons, List.length_nil, List.drop_succ_cons, List.drop_zero, List.take_succ_cons, List.take_zero, List.cons_append, List.nil_append, List.append_nil, List.drop_nil, List.take_nil, Nat.reduceAdd, Nat.reduceLeDiff, Nat.zero_add, Nat.add_zero, ↓reduceIte, Bool.not_true, Bool.not_false, decide_true, decide_false, eq_self, bne_self_eq_false, List.getElem?_cons_zero, List.getElem?_cons_succ, decide_eq_true_eq, Bool.false_eq_true, Bool.true_eq_false, reduceCtorEq, Nat.le_refl, e1, hq, l01In_run hS])))
  all_goals clear hq e1 hcg
  all_goals first
    | (simp_all [inR]; done)
    | (simp_all [inR]; intros; omega)
end
end Go.Proofs.Ytlbagejkjkfkjaa.A
/- Copies of a chart, new clients and where a client asks. -/
namespace Go.Proofs.Ytlbagejkjkfkjaa.A
open Go
set_option linter.unusedSimpArgs false
set_option linter.unusedVariables false
def Chart.zero_ : Chart := ⟨0, [], false, 0, 0⟩
def Client.zero_ : Client := ⟨0, 0, Chart.zero_, false, 0, Request.none_⟩
def newClient (id : Int) (c : Chart) : Client := bif (⟨id, 0, c, false, 0, Request.none_⟩ : Client).good then ⟨id, 0, c, false, 0, Request.none_⟩ else Client.zero_
theorem newClient_small {id : Int} {c : Chart} (sm : c.Small) : (newClient id c).Small := by
  unfold newClient
  cases (⟨id, 0, c, false, 0, Request.none_⟩ : Client).good with
  | false => simp [Client.zero_, Client.Small, Chart.Small, Chart.zero_]
  | true => exact sm
section
variable {F : Nat → Option RF} {Z : CallF} {h : Heap} {cs : List Cell} {fp : List Nat}
theorem ClientOk_c {c : Client} (hI11 : Has F tI11) (hI12 : Has F tI12) (hI16 : Has F tI16) (hLi : Has F tLibslicesIndexFuncimplRangeimplRange) (hf : h.floor ≤ h.next) (v : Client.RI h cs c fp) (ok : c.Ok) : ∃ h', call F Z 79 [.agg cs] h = some (.c (.bool c.good), h') ∧ On h h' := by
  obtain ⟨h1, e1, o1⟩ := isClient_run (Z := Z) hI11 hI12 hI16 hLi v ok.chart
  obtain ⟨l1, l2, l3⟩ := Client.lenI v
  rw [call_run F Z (hI16.lk (g := 79) rfl) _ _ rfl]
  simp only [run0, run1, run2, run3, run4, noSlot, ownS, ownK, memN, RO.dst, lk, drop, forget, number, Nat.reduceBEq, cut?, splice?, builds, List.length_cons, List.length_nil, List.drop_succ_cons, List.drop_zero, List.take_succ_cons, List.take_zero, List.cons_append, List.nil_append, List.append_nil, List.drop_nil, List.take_nil, Nat.reduceAdd, Nat.reduceLeDiff, Nat.zero_add, Nat.add_zero, ↓reduceIte, Bool.not_true, Bool.not_false, decide_true, decide_false, eq_self, bne_self_eq_false, List.getElem?_cons_zero, List.getElem?_cons_succ, decide_eq_true_eq, Bool.false_eq_true, Bool.true_eq_false, reduceCtorEq, Nat.le_refl, l1, l2, l3, e1]
  exact ⟨_, rfl, o1⟩
theorem sClientOk_c {c : Client} (hS : Has F tS01d) (hS11 : Has F tS11) (hS12 : Has F tS12) (hS16 : Has F tS16) (hf : h.floor ≤ h.next) (v : Client.RI h cs c fp) (ok : c.Ok) : ∃ h', call F Z 78 [.agg cs] h = some (.c (.bool c.good), h') ∧ On h h' :=
  ⟨h, sClientOk_run hS hS11 hS12 hS16 v ok.chart, On.refl h⟩
theorem ClientWhere_c {c : Client} (hI11 : Has F tI11) (hI12 : Has F tI12) (hI16 : Has F tI16) (hLi : Has F tLibslicesIndexFuncimplRangeimplRange) (hf : h.floor ≤ h.next) (v : Client.RI h cs c fp) (id : Int) (ok : c.Ok) (g : 0 ≤ id ∧ id ≤ 18446744073709551615) :
    ∃ h', call F Z 90 [.agg cs, .c (.int .u64 id)] h = some (.c (.int .i64 (c.where_ id)), h') ∧ On h h' := by
  obtain ⟨h1, e1, o1⟩ := isClient_run (Z := Z) hI11 hI12 hI16 hLi v ok.chart
  obtain ⟨x, p, rfl, rfl, w⟩ := v
  rw [call_run F Z (hI16.lk (g := 90) rfl) _ _ rfl]
  cases hg : c.good with
  | false =>
    rw [hg] at e1
    simp only [run0, run1, run2, run3, run4, noSlot, ownS, ownK, memN, RO.dst, lk, drop, forget, number, Nat.reduceBEq, cut?, splice?, builds, List.length_cons, List.length_nil, List.drop_succ_cons, List.drop_zero, List.take_succ_cons, List.take_zero, List.cons_append, List.nil_append, List.append_nil, List.drop_nil, List.take_nil, Nat.reduceAdd, Nat.reduceLeDiff, Nat.zero_add, Nat.add_zero, ↓reduceIte, Bool.not_true, Bool.not_false, decide_true, decide_false, eq_self, bne_self_eq_false, List.getElem?_cons_zero, List.getElem?_cons_succ, decide_eq_true_eq, Bool.false_eq_true, Bool.true_eq_false, reduceCtorEq, Nat.le_refl, e1]
    exact ⟨_, by simp [Client.where_, hg], o1⟩
  | true =>
    rw [hg] at e1
    have hcg : c.chart.good = true := by simp only [Client.good, Bool.and_eq_true] at hg; exact hg.2.2.1
    obtain ⟨i, hi, q1, _, q2, _, _⟩ := Chart.has (c := c.chart) (Chart.good_ranges hcg) g.1 g.2
    have w1 := w.on (Fl.ok _) o1
    obtain ⟨hq, k, fr, hgq, on2⟩ := findRange_q (Z := Z) hI11 hLi w1 id
    rw [q1] at fr
    have hld : ∀ j n, loadP k x.sid i j n = cut? (Range.at_ c.chart.ranges i).enc j n := (w1.on (Fl.ok _) on2).loadD Range.none_ hi
    simp only [run0, run1, run2, run3, run4, noSlot, ownS, ownK, memN, RO.dst, lk, drop, forget, number, Nat.reduceBEq, cut?, splice?, builds, List.length_cons, List.length_nil, List.drop_succ_cons, List.drop_zero, List.take_succ_cons, List.take_zero, List.cons_append, List.nil_append, List.append_nil, List.drop_nil, List.take_nil, Nat.reduceAdd, Nat.reduceLeDiff, Nat.zero_add, Nat.add_zero, ↓reduceIte, Bool.not_true, Bool.not_false, decide_true, decide_false, eq_self, bne_self_eq_false, List.getElem?_cons_zero, List.getElem?_cons_succ, decide_eq_true_eq, Bool.false_eq_true, Bool.true_eq_false, reduceCtorEq, Nat.le_refl, e1, fr, hgq, hld, w.idx hi, Range.enc]
    exact ⟨_, by simp [Client.where_, hg, q2], o1.trans on2⟩
theorem sClientWhere_c {c : Client} (hS : Has F tS01d) (hS11 : Has F tS11) (hS12 : Has F tS12) (hS16 : Has F tS16) (hf : h.floor ≤ h.next) (v : Client.RI h cs c fp) (id : Int) (ok : c.Ok) (g : 0 ≤ id ∧ id ≤ 18446744073709551615) :
    ∃ h', call F Z 89 [.agg cs, .c (.int .u64 id)] h = some (.c (.int .i64 (c.where_ id)), h') ∧ On h h' := by
  have e1 := sClientOk_run (Z := Z) hS hS11 hS12 hS16 v ok.chart
  obtain ⟨x, p, rfl, rfl, w⟩ := v
  obtain ⟨h2, e2, o2⟩ := sRouteOf_run (Z := Z) hS hS11 hS12 (⟨x, _, rfl, rfl, w⟩ : Chart.RI h _ c.chart _) ok.chart g.1 g.2
  rw [call_run F Z (hS16.lk (g := 89) rfl) _ _ rfl]
  cases hg : c.good with
  | false =>
    rw [hg] at e1
    simp only [run0, run1, run2, run3, run4, noSlot, ownS, ownK, memN, RO.dst, lk, drop, forget, number, Nat.reduceBEq, cut?, splice?, builds, List.length_cons, List.length_nil, List.drop_succ_cons, List.drop_zero, List.take_succ_cons, List.take_zero, List.cons_append, List.nil_append, List.append_nil, List.drop_nil, List.take_nil, Nat.reduceAdd, Nat.reduceLeDiff, Nat.zero_add, Nat.add_zero, ↓reduceIte, Bool.not_true, Bool.not_false, decide_true, decide_false, eq_self, bne_self_eq_false, List.getElem?_cons_zero, List.getElem?_cons_succ, decide_eq_true_eq, Bool.false_eq_true, Bool.true_eq_false, reduceCtorEq, Nat.le_refl, e1]
    exact ⟨_, by simp [Client.where_, hg], On.refl h⟩
  | true =>
    rw [hg] at e1
    have hcg : c.chart.good = true := by simp only [Client.good, Bool.and_eq_true] at hg; exact hg.2.2.1
    simp only [run0, run1, run2, run3, run4, noSlot, ownS, ownK, memN, RO.dst, lk, drop, forget, number, Nat.reduceBEq, cut?, splice?, builds, List.length_cons, List.length_nil, List.drop_succ_cons, List.drop_zero, List.take_succ_cons, List.take_zero, List.cons_append, List.nil_append, List.append_nil, List.drop_nil, List.take_nil, Nat.reduceAdd, Nat.reduceLeDiff, Nat.zero_add, Nat.add_zero, ↓reduceIte, Bool.not_true, Bool.not_false, decide_true, decide_false, eq_self, bne_self_eq_false, List.getElem?_cons_zero, List.getElem?_cons_succ, decide_eq_true_eq, Bool.false_eq_true, Bool.true_eq_false, reduceCtorEq, Nat.le_refl, e1, e2]
    exact ⟨_, by simp [Client.where_, hg, Chart.route, hcg], o2⟩
variable {c : Chart}
theorem copyChart_c (hI12 : Has F tI12) (hf : h.floor ≤ h.next) (v : Chart.RI h cs c fp) (sm : c.ranges.length ≤ 1048576) : ∃ cs' h' fq, call F Z 116 [.agg cs] h = some (.agg cs', h') ∧ On h h' ∧ Chart.RI h' cs' c fq ∧ Fre h fq := by
  obtain ⟨x, p, rfl, rfl, w⟩ := v
  have a0 := Acc.lit0 (tag := 7) (On.refl h)
  have w' := w.on (Fl.ok _) (On.push h [])
  have ce := a0.cat_eq (bytes := 24) (y := x) (new := c.ranges.map Range.enc) hf w'.isTag w'.rows (by simp; omega)
  have ac := a0.cat (new := c.ranges.map Range.enc) hf (by simp; omega)
  simp only [List.nil_append] at ac
  obtain ⟨o, fq, u, f⟩ := ac.flat
  rw [call_run F Z (hI12.lk (g := 116) rfl) _ _ rfl]
  simp only [run0, run1, run2, run3, run4, noSlot, ownS, ownK, memN, RO.dst, lk, drop, forget, number, Nat.reduceBEq, cut?, splice?, builds, List.length_cons, List.length_nil, List.drop_succ_cons, List.drop_zero, List.take_succ_cons, List.take_zero, List.cons_append, List.nil_append, List.append_nil, List.drop_nil, List.take_nil, Nat.reduceAdd, Nat.reduceLeDiff, Nat.zero_add, Nat.add_zero, ↓reduceIte, Bool.not_true, Bool.not_false, decide_true, decide_false, eq_self, bne_self_eq_false, List.getElem?_cons_zero, List.getElem?_cons_succ, decide_eq_true_eq, Bool.false_eq_true, Bool.true_eq_false, reduceCtorEq, Nat.le_refl, List.replicate_zero, fills, ce]
  exact ⟨_, _, _, rfl, o, ⟨_, _, rfl, rfl, u⟩, f⟩
theorem l12Copy_c (hS12 : Has F tS12) (hf : h.floor ≤ h.next) (v : Chart.RI h cs c fp) (sm : c.ranges.length ≤ 1048576) : ∃ cs' h' fq, call F Z 115 [.agg cs] h = some (.agg cs', h') ∧ On h h' ∧ Chart.RI h' cs' c fq ∧ Fre h fq := by
  obtain ⟨x, p, rfl, rfl, w⟩ := v
  rw [call_run F Z (hS12.lk (g := 115) rfl) _ _ rfl]
  simp only [run0, run1, run2, run3, run4, noSlot, ownS, ownK, memN, RO.dst, lk, drop, forget, number, Nat.reduceBEq, cut?, splice?, builds, List.length_cons, List.length_nil, List.drop_succ_cons, List.drop_zero, List.take_succ_cons, List.take_zero, List.cons_append, List.nil_append, List.append_nil, List.drop_nil, List.take_nil, Nat.reduceAdd, Nat.reduceLeDiff, Nat.zero_add, Nat.add_zero, ↓reduceIte, Bool.not_true, Bool.not_false, decide_true, decide_false, eq_self, bne_self_eq_false, List.getElem?_cons_zero, List.getElem?_cons_succ, decide_eq_true_eq, Bool.false_eq_true, Bool.true_eq_false, reduceCtorEq, Nat.le_refl]
  obtain ⟨y1, h1, a1, l1⟩ := loop_acc (F := F) (Z := Z) (live := [1, 2, 3, 4]) (b := r115L0) c.ranges (fun r => [r.enc]) 7 h (fun i y g => ⟨[(4, .c (.int .i64 (i : Nat)))], [(1, 1, 0), (2, 2, 0), (3, 3, 0)], [(1, [.int .i64 c.epoch, x, .bool c.moving, .int .u64 c.lo, .int .i64 c.to]), (2, [.int .i64 0, .nil, .bool false, .int .u64 0, .int .i64 0]), (3, [.int .i64 c.epoch, y, .bool c.moving, .int .u64 c.lo, .int .i64 c.to])], g⟩) (fun r => by simp) (fun i hi y g rows a hr => by
    have e1 := a.one_eq hf (bytes := 24) (by omega)
    have a1 := a.one hf (by omega)
    have hlt : (i : Int) < c.ranges.length := by omega
    have wg := w.on (Fl.ok _) a.on
    rw [loop_run]
    conv in (codeF _ _ r115L0 _) => unfold r115L0
    simp only [run0, run1, run2, run3, run4, noSlot, ownS, ownK, memN, RO.dst, lk, drop, forget, number, Nat.reduceBEq, cut?, splice?, builds, List.length_cons, List.length_nil, List.drop_succ_cons, List.drop_zero, List.take_succ_cons, List.take_zero, List.cons_append, List.nil_append, List.append_nil, List.drop_nil, List.take_nil, Nat.reduceAdd, Nat.reduceLeDiff, Nat.zero_add, Nat.add_zero, ↓reduceIte, Bool.not_true, Bool.not_false, decide_true, decide_false, eq_self, bne_self_eq_false, List.getElem?_cons_zero, List.getElem?_cons_succ, decide_eq_true_eq, Bool.false_eq_true, Bool.true_eq_false, reduceCtorEq, Nat.le_refl, w.len, hlt, w.idx hi, wg.load hi, Range.len, Range.tak, wrapS i (by omega), List.replicate_succ, List.replicate_zero, fills, and_self, Nat.zero_lt_one, List.set_cons_zero, e1]
    exact ⟨_, _, a1 _, rfl⟩) (Acc.nil 7 h)
  simp only [show ((0 : Nat) : Int) = 0 from rfl] at l1
  have hlt : ¬ (c.ranges.length : Int) < c.ranges.length := by omega
  rw [l1, loop_run]
  conv in (codeF _ _ r115L0 _) => unfold r115L0
  simp only [run0, run1, run2, run3, run4, noSlot, ownS, ownK, memN, RO.dst, lk, drop, forget, number, Nat.reduceBEq, cut?, splice?, builds, List.length_cons, List.length_nil, List.drop_succ_cons, List.drop_zero, List.take_succ_cons, List.take_zero, List.cons_append, List.nil_append, List.append_nil, List.drop_nil, List.take_nil, Nat.reduceAdd, Nat.reduceLeDiff, Nat.zero_add, Nat.add_zero, ↓reduceIte, Bool.not_true, Bool.not_false, decide_true, decide_false, eq_self, bne_self_eq_false, List.getElem?_cons_zero, List.getElem?_cons_succ, decide_eq_true_eq, Bool.false_eq_true, Bool.true_eq_false, reduceCtorEq, Nat.le_refl, w.len, hlt]
  have hm : c.ranges.flatMap (fun r => [r.enc]) = c.ranges.map Range.enc := by
    induction c.ranges with
    | nil => rfl
    | cons a r ih => rw [List.flatMap_cons, ih]; rfl
  rw [hm] at a1
  obtain ⟨o, fq, u, f⟩ := a1.flat
  exact ⟨_, _, _, rfl, o, ⟨_, _, rfl, rfl, u⟩, f⟩
theorem Client.zero_R (h : Heap) : Client.RI h [.int .i64 0, .int .i64 0, .int .i64 0, .nil, .bool false, .int .u64 0, .int .i64 0, .bool false, .int .i64 0, .int .i64 0, .int .i64 0, .int .u64 0, .int .u64 0, .int .i64 0] Client.zero_ [] := ⟨.nil, [], rfl, rfl, SlR.nil _ _ _⟩
theorem NewClient_c (hI11 : Has F tI11) (hI12 : Has F tI12) (hI16 : Has F tI16) (hLi : Has F tLibslicesIndexFuncimplRangeimplRange) (hf : h.floor ≤ h.next) (id : Int) (v : Chart.RI h cs c fp) (ok : c.Ok) (sm : c.ranges.length ≤ 1048576) :
    ∃ cs' h' fq, call F Z 93 [.c (.int .i64 id), .agg cs] h = some (.agg cs', h') ∧ On h h' ∧ Client.RI h' cs' (newClient id c) fq ∧ Fre h fq := by
  obtain ⟨l1, l2, l3⟩ := Chart.lenI v
  obtain ⟨_, h1, _, e1, o1, ⟨y, q, rfl, rfl, u⟩, f⟩ := copyChart_c (Z := Z) hI12 hf v sm
  obtain ⟨h2, e2, o2⟩ := isClient_run (Z := Z) (c := ⟨id, 0, c, false, 0, Request.none_⟩) hI11 hI12 hI16 hLi ⟨y, _, rfl, rfl, u⟩ ok
  rw [call_run F Z (hI16.lk (g := 93) rfl) _ _ rfl]
  simp only [Request.none_] at e2
  cases hg : (⟨id, 0, c, false, 0, Request.none_⟩ : Client).good with
  | false =>
    simp only [Request.none_] at hg
    rw [hg] at e2
    simp only [run0, run1, run2, run3, run4, noSlot, ownS, ownK, memN, RO.dst, lk, drop, forget, number, Nat.reduceBEq, cut?, splice?, builds, List.length_cons, List.length_nil, List.drop_succ_cons, List.drop_zero, List.take_succ_cons, List.take_zero, List.cons_append, List.nil_append, List.append_nil, List.drop_nil, List.take_nil, Nat.reduceAdd, Nat.reduceLeDiff, Nat.zero_add, Nat.add_zero, ↓reduceIte, Bool.not_true, Bool.not_false, decide_true, decide_false, eq_self, bne_self_eq_false, List.getElem?_cons_zero, List.getElem?_cons_succ, decide_eq_true_eq, Bool.false_eq_true, Bool.true_eq_false, reduceCtorEq, Nat.le_refl, l1, l2, l3, e1, e2]
    exact ⟨_, _, _, rfl, o1.trans o2, by simp only [newClient, Request.none_, hg, cond_false]; exact Client.zero_R _, Fre.nil h⟩
  | true =>
    simp only [Request.none_] at hg
    rw [hg] at e2
    simp only [run0, run1, run2, run3, run4, noSlot, ownS, ownK, memN, RO.dst, lk, drop, forget, number, Nat.reduceBEq, cut?, splice?, builds, List.length_cons, List.length_nil, List.drop_succ_cons, List.drop_zero, List.take_succ_cons, List.take_zero, List.cons_append, List.nil_append, List.append_nil, List.drop_nil, List.take_nil, Nat.reduceAdd, Nat.reduceLeDiff, Nat.zero_add, Nat.add_zero, ↓reduceIte, Bool.not_true, Bool.not_false, decide_true, decide_false, eq_self, bne_self_eq_false, List.getElem?_cons_zero, List.getElem?_cons_succ, decide_eq_true_eq, Bool.false_eq_true, Bool.true_eq_false, reduceCtorEq, Nat.le_refl, l1, l2, l3, e1, e2]
    exact ⟨_, _, _, rfl, o1.trans o2, by simp only [newClient, Request.none_, hg, cond_true]; exact ⟨y, _, rfl, rfl, u.on (Fl.ok _) o2⟩, f⟩
theorem sNewClient_c (hS : Has F tS01d) (hS11 : Has F tS11) (hS12 : Has F tS12) (hS16 : Has F tS16) (hf : h.floor ≤ h.next) (id : Int) (v : Chart.RI h cs c fp) (ok : c.Ok) (sm : c.ranges.length ≤ 1048576) :
    ∃ cs' h' fq, call F Z 92 [.c (.int .i64 id), .agg cs] h = some (.agg cs', h') ∧ On h h' ∧ Client.RI h' cs' (newClient id c) fq ∧ Fre h fq := by
  obtain ⟨l1, l2, l3⟩ := Chart.lenI v
  obtain ⟨_, h1, _, e1, o1, ⟨y, q, rfl, rfl, u⟩, f⟩ := l12Copy_c (Z := Z) hS12 hf v sm
  have e2 := sClientOk_run (Z := Z) (c := ⟨id, 0, c, false, 0, Request.none_⟩) hS hS11 hS12 hS16 ⟨y, _, rfl, rfl, u⟩ ok
  rw [call_run F Z (hS16.lk (g := 92) rfl) _ _ rfl]
  simp only [Request.none_] at e2
  cases hg : (⟨id, 0, c, false, 0, Request.none_⟩ : Client).good with
  | false =>
    simp only [Request.none_] at hg
    rw [hg] at e2
    simp only [run0, run1, run2, run3, run4, noSlot, ownS, ownK, memN, RO.dst, lk, drop, forget, number, Nat.reduceBEq, cut?, splice?, builds, List.length_cons, List.length_nil, List.drop_succ_cons, List.drop_zero, List.take_succ_cons, List.take_zero, List.cons_append, List.nil_append, List.append_nil, List.drop_nil, List.take_nil, Nat.reduceAdd, Nat.reduceLeDiff, Nat.zero_add, Nat.add_zero, ↓reduceIte, Bool.not_true, Bool.not_false, decide_true, decide_false, eq_self, bne_self_eq_false, List.getElem?_cons_zero, List.getElem?_cons_succ, decide_eq_true_eq, Bool.false_eq_true, Bool.true_eq_false, reduceCtorEq, Nat.le_refl, l1, l2, l3, e1, e2]
    exact ⟨_, _, _, rfl, o1, by simp only [newClient, Request.none_, hg, cond_false]; exact Client.zero_R _, Fre.nil h⟩
  | true =>
    simp only [Request.none_] at hg
    rw [hg] at e2
    simp only [run0, run1, run2, run3, run4, noSlot, ownS, ownK, memN, RO.dst, lk, drop, forget, number, Nat.reduceBEq, cut?, splice?, builds, List.length_cons, List.length_nil, List.drop_succ_cons, List.drop_zero, List.take_succ_cons, List.take_zero, List.cons_append, List.nil_append, List.append_nil, List.drop_nil, List.take_nil, Nat.reduceAdd, Nat.reduceLeDiff, Nat.zero_add, Nat.add_zero, ↓reduceIte, Bool.not_true, Bool.not_false, decide_true, decide_false, eq_self, bne_self_eq_false, List.getElem?_cons_zero, List.getElem?_cons_succ, decide_eq_true_eq, Bool.false_eq_true, Bool.true_eq_false, reduceCtorEq, Nat.le_refl, l1, l2, l3, e1, e2]
    exact ⟨_, _, _, rfl, o1, by simp only [newClient, Request.none_, hg, cond_true]; exact ⟨y, _, rfl, rfl, u⟩, f⟩
end
end Go.Proofs.Ytlbagejkjkfkjaa.A
/- The reference's deeds with ranges, called with the floor raised. -/
namespace Go.Proofs.Ytlbagejkjkfkjaa.A
open Go
section
variable {F : Nat → Option RF} {Z : CallF} {h hp : Heap} {x : Cell} {xs : List Range} {fp : List Nat}
theorem sSplitRange_q (hS : Has F tS01d) (hS11 : Has F tS11) (w : SlR 7 (Fl Range.enc) h x xs fp) (a g : Int) (ha : 0 ≤ a ∧ a ≤ 18446744073709551615) (hok : ∀ t, t ∈ xs → t.Ok) (sm : xs.length ≤ 1048576) :
    ∃ y h' k fq, call F Z 221 [.c x, .c (.int .u64 a), .c (.int .i64 g)] ⟨h.next, h.next, h.get⟩ = some (.tup [.c y, .c (.bool (splitRg xs a g).2)], h') ∧ Heap.mk h'.next h.floor h'.get = k ∧ On h k ∧ SlR 7 (Fl Range.enc) k y (splitRg xs a g).1 fq ∧ Fre h fq := by
  obtain ⟨y, h', fq, e, o, u, f⟩ := sSplitRange_c (Z := Z) (h := ⟨h.next, h.next, h.get⟩) hS hS11 (Nat.le_refl _) (w.up (Fl.ok _) h.next) a g ha hok sm
  exact ⟨y, h', _, fq, e, rfl, ⟨⟨o.ext.1, o.ext.2⟩, rfl⟩, u.up (Fl.ok _) h.floor, ⟨f.lo, f.nd⟩⟩
end
end Go.Proofs.Ytlbagejkjkfkjaa.A
/- A command is done with a chart, the reference's way. -/
namespace Go.Proofs.Ytlbagejkjkfkjaa.A
open Go
set_option linter.unusedSimpArgs false
set_option linter.unusedVariables false
section
variable {F : Nat → Option RF} {Z : CallF} {h : Heap} {cs : List Cell} {c : Chart} {fp : List Nat}
set_option maxHeartbeats 4000000 in
theorem sDoMap_c (hS : Has F tS01d) (hS11 : Has F tS11) (hS12 : Has F tS12) (hf : h.floor ≤ h.next) (v : Chart.RI h cs c fp) (q : MapCmd) (okq : q.Ok) (ok : c.Ok) (sm : c.Small) :
    ∃ cs' h' fq, call F Z 180 [.agg cs, .agg q.enc] h = some (.tup [.agg cs', .c (.int .i64 (doMap c q).2)], h') ∧ On h h' ∧ Chart.RI h' cs' (doMap c q).1 fq ∧ Fre h fq := by
  obtain ⟨_, h1, f1, e1, o1, ⟨y, _, rfl, rfl, u⟩, r1⟩ := l12Copy_c (Z := Z) hS12 hf v sm
  have e2 := sChartOk_run (Z := Z) hS hS11 hS12 (Chart.okI.on v o1) ok
  have e3 := fun h => l01In_run (Z := Z) hS q.kind 0 4 h
  have e4 := fun h => l01In_run (Z := Z) hS q.group 0 99 h
  obtain ⟨x, p, rfl, hp, w⟩ := v
  subst hp
  have w1 := w.on (Fl.ok _) o1
  have hf1 := o1.le hf
  have nx : ∀ {fq : List Nat}, Fre h1 fq → Fre h fq := fun f => ⟨fun id hid => Nat.le_trans o1.ext.1 (f.lo id hid), f.nd⟩
  rw [call_run F Z (hS12.lk (g := 180) rfl) _ _ rfl]
  cases hgd : c.good with
  | false =>
    rw [hgd] at e2
    have hd : doMap c q = (c, 1) := by simp [doMap, hgd]
    rw [hd]
    simp only [run0, run1, run2, run3, run4, noSlot, ownS, ownK, memN, RO.dst, lk, drop, forget, number, Nat.reduceBEq, cut?, splice?, builds, List.length_cons, List.length_nil, List.drop_succ_cons, List.drop_zero, List.take_succ_cons, List.take_zero, List.cons_append, List.nil_append, List.append_nil, List.drop_nil, List.take_nil, Nat.reduceAdd, Nat.reduceLeDiff, Nat.zero_add, Nat.add_zero, ↓reduceIte, Bool.not_true, Bool.not_false, decide_true, decide_false, eq_self, bne_self_eq_false, List.getElem?_cons_zero, List.getElem?_cons_succ, decide_eq_true_eq, Bool.false_eq_true, Bool.true_eq_false, reduceCtorEq, Nat.le_refl, MapCmd.enc, e1, e2]
    exact ⟨_, _, _, rfl, o1, ⟨y, _, rfl, rfl, u⟩, r1⟩
  | true =>
    rw [hgd] at e2
    cases hk : inR q.kind 0 4 with
    | false =>
      rw [hk] at e3
      have hd : doMap c q = (c, 1) := by simp [doMap, hk]
      rw [hd]
      simp only [run0, run1, run2, run3, run4, noSlot, ownS, ownK, memN, RO.dst, lk, drop, forget, number, Nat.reduceBEq, cut?, splice?, builds, List.length_cons, List.length_nil, List.drop_succ_cons, List.drop_zero, List.take_succ_cons, List.take_zero, List.cons_append, List.nil_append, List.append_nil, List.drop_nil, List.take_nil, Nat.reduceAdd, Nat.reduceLeDiff, Nat.zero_add, Nat.add_zero, ↓reduceIte, Bool.not_true, Bool.not_false, decide_true, decide_false, eq_self, bne_self_eq_false, List.getElem?_cons_zero, List.getElem?_cons_succ, decide_eq_true_eq, Bool.false_eq_true, Bool.true_eq_false, reduceCtorEq, Nat.le_refl, MapCmd.enc, e1, e2, e3]
      exact ⟨_, _, _, rfl, o1, ⟨y, _, rfl, rfl, u⟩, r1⟩
    | true =>
      rw [hk] at e3
      cases hep : (c.epoch == 1000000) with
      | true =>
        have hd : doMap c q = (c, 1) := by simp [doMap, hep]
        rw [hd]
        simp only [run0, run1, run2, run3, run4, noSlot, ownS, ownK, memN, RO.dst, lk, drop, forget, number, Nat.reduceBEq, cut?, splice?, builds, List.length_cons, List.length_nil, List.drop_succ_cons, List.drop_zero, List.take_succ_cons, List.take_zero, List.cons_append, List.nil_append, List.append_nil, List.drop_nil, List.take_nil, Nat.reduceAdd, Nat.reduceLeDiff, Nat.zero_add, Nat.add_zero, ↓reduceIte, Bool.not_true, Bool.not_false, decide_true, decide_false, eq_self, bne_self_eq_false, List.getElem?_cons_zero, List.getElem?_cons_succ, decide_eq_true_eq, Bool.false_eq_true, Bool.true_eq_false, reduceCtorEq, Nat.le_refl, MapCmd.enc, e1, e2, e3, hep]
        exact ⟨_, _, _, rfl, o1, ⟨y, _, rfl, rfl, u⟩, r1⟩
      | false =>
        have hd : doMap c q = c.act q := by simp [doMap, hgd, hk, hep]
        rw [hd]
        have hr := Chart.good_ranges hgd
        obtain ⟨k, hkl, q1, q2, q3, q4, q5⟩ := Chart.has (c := c) hr okq.at_.1 okq.at_.2
        have e5 := sFindRange_run (Z := Z) hS hS11 w1 ok.ranges q.at_
        rw [hr, cond_true, q2] at e5
        have hpl : c.pl q.at_ = k := by simp [Chart.pl, q1]
        have hxi := w.idx hkl
        have hld := w1.load hkl
        rw [← at_get hkl] at hld
        simp only [Range.enc] at hld
        have hepr : IntKind.i64.wrap (c.epoch + 1) = c.epoch + 1 := by
          simp only [Chart.good, inR, Bool.and_eq_true, decide_eq_true_eq] at hgd
          exact wrapI _ (by omega) (by omega)
        -- the place of the range that moves
        have hz : (Range.at_ c.ranges k).lo = q.at_ → ((q.at_ == 0) = ((k : Int) == 0)) := fun he => by
          have hfit := rangesOk_fit hr
          rw [Bool.eq_iff_iff]
          simp only [beq_iff_eq]
          constructor
          · intro h0
            rcases Nat.eq_zero_or_pos k with hk0 | hk0
            · omega
            · have := hfit.apart hk0 hkl
              have := hfit.le 0 (by omega)
              have := hfit.lo0
              omega
          · intro h0
            have hk0 : k = 0 := by omega
            subst hk0
            rw [← he]; exact hfit.lo0
        have copy : ∀ {g : Heap}, On h g → ∃ z g' fz, call F Z 115 [.agg [.int .i64 c.epoch, x, .bool c.moving, .int .u64 c.lo, .int .i64 c.to]] g = some (.agg [.int .i64 c.epoch, z, .bool c.moving, .int .u64 c.lo, .int .i64 c.to], g') ∧ On h g' ∧ SlR 7 (Fl Range.enc) g' z c.ranges fz ∧ Fre h fz := fun {g} o => by
          obtain ⟨_, h2, f2, e, o2, ⟨z, _, rfl, rfl, u2⟩, r2⟩ := l12Copy_c (Z := Z) hS12 (o.le hf) (Chart.okI.on (⟨x, _, rfl, rfl, w⟩ : Chart.RI h _ c _) o) sm
          exact ⟨z, h2, f2, e, o.trans o2, u2, ⟨fun id hid => Nat.le_trans o.ext.1 (r2.lo id hid), r2.nd⟩⟩
        by_cases hm : c.moving = true
        case neg =>
          replace hm : c.moving = false := by simpa using hm
          rw [hm] at e1 e2
          have hmk : ((-1 : Int) == (k : Int)) = c.mv k := by simp [Chart.mv, hm]
          have hmk1 : 1 ≤ k → ((-1 : Int) == (k : Int) - 1) = c.mv (k - 1) := fun h1 => by simp [Chart.mv, hm]; omega
          by_cases k0 : q.kind = 0
          · have k0' : (q.kind == 0) = true := by simpa using k0
            cases hv : c.mv k with
            | true =>
              rw [hv] at hmk
              have ha : c.act q = (c, 2) := by simp [Chart.act, k0, hpl, hv]
              rw [ha]
              simp only [run0, run1, run2, run3, run4, noSlot, ownS, ownK, memN, RO.dst, lk, drop, forget, number, Nat.reduceBEq, cut?, splice?, builds, List.length_cons, List.length_nil, List.drop_succ_cons, List.drop_zero, List.take_succ_cons, List.take_zero, List.cons_append, List.nil_append, List.append_nil, List.drop_nil, List.take_nil, Nat.reduceAdd, Nat.reduceLeDiff, Nat.zero_add, Nat.add_zero, ↓reduceIte, Bool.not_true, Bool.not_false, decide_true, decide_false, eq_self, bne_self_eq_false, List.getElem?_cons_zero, List.getElem?_cons_succ, decide_eq_true_eq, Bool.false_eq_true, Bool.true_eq_false, reduceCtorEq, Nat.le_refl, MapCmd.enc, e1, e2, e3, hep, e5, hm, k0', hmk]
              exact ⟨_, _, _, rfl, o1, ⟨y, _, (by first | rfl | rw [hm] | simp [hm]), rfl, u⟩, r1⟩
            | false =>
              rw [hv] at hmk
              have ha : c.act q = c.fin (splitRg c.ranges q.at_ (Range.at_ c.ranges k).group) := by simp [Chart.act, k0, hpl, hv]
              rw [ha]
              obtain ⟨z, h2, g2, f2, e6, hg2, o2, w2, r2⟩ := sSplitRange_q (Z := Z) hS hS11 w1 q.at_ (Range.at_ c.ranges k).group okq.at_ ok.ranges sm
              cases hb : (splitRg c.ranges q.at_ (Range.at_ c.ranges k).group).2 with
              | false =>
                rw [hb] at e6
                obtain ⟨z', h3, f3, e7, o3, w3, r3⟩ := copy (o1.trans o2)
                simp only [Chart.fin, hb, cond_false]
                rw [hm] at e7
                simp only [run0, run1, run2, run3, run4, noSlot, ownS, ownK, memN, RO.dst, lk, drop, forget, number, Nat.reduceBEq, cut?, splice?, builds, List.length_cons, List.length_nil, List.drop_succ_cons, List.drop_zero, List.take_succ_cons, List.take_zero, List.cons_append, List.nil_append, List.append_nil, List.drop_nil, List.take_nil, Nat.reduceAdd, Nat.reduceLeDiff, Nat.zero_add, Nat.add_zero, ↓reduceIte, Bool.not_true, Bool.not_false, decide_true, decide_false, eq_self, bne_self_eq_false, List.getElem?_cons_zero, List.getElem?_cons_succ, decide_eq_true_eq, Bool.false_eq_true, Bool.true_eq_false, reduceCtorEq, Nat.le_refl, MapCmd.enc, e1, e2, e3, hep, e5, hm, k0', hmk, hxi, hld, e6, hg2, e7]
                exact ⟨_, _, _, rfl, o3, ⟨z', _, (by first | rfl | rw [hm] | simp [hm]), rfl, w3⟩, r3⟩
              | true =>
                rw [hb] at e6
                simp only [Chart.fin, hb, cond_true]
                simp only [run0, run1, run2, run3, run4, noSlot, ownS, ownK, memN, RO.dst, lk, drop, forget, number, Nat.reduceBEq, cut?, splice?, builds, List.length_cons, List.length_nil, List.drop_succ_cons, List.drop_zero, List.take_succ_cons, List.take_zero, List.cons_append, List.nil_append, List.append_nil, List.drop_nil, List.take_nil, Nat.reduceAdd, Nat.reduceLeDiff, Nat.zero_add, Nat.add_zero, ↓reduceIte, Bool.not_true, Bool.not_false, decide_true, decide_false, eq_self, bne_self_eq_false, List.getElem?_cons_zero, List.getElem?_cons_succ, decide_eq_true_eq, Bool.false_eq_true, Bool.true_eq_false, reduceCtorEq, Nat.le_refl, MapCmd.enc, e1, e2, e3, hep, e5, hm, k0', hmk, hxi, hld, e6, hg2, hepr]
                exact ⟨_, _, _, rfl, o1.trans o2, ⟨z, _, (by first | rfl | rw [hm] | simp [hm]), rfl, w2⟩, nx r2⟩
          have k0' : (q.kind == 0) = false := by simpa using k0
          by_cases k1 : q.kind = 1
          · have k1' : (q.kind == 1) = true := by simpa using k1
            by_cases hla : (Range.at_ c.ranges k).lo = q.at_
            case neg =>
              have hln : ((Range.at_ c.ranges k).lo != q.at_) = true := by simpa using hla
              have ha : c.act q = (c, 4) := by simp [Chart.act, k1, hpl, hln]
              rw [ha]
              simp only [run0, run1, run2, run3, run4, noSlot, ownS, ownK, memN, RO.dst, lk, drop, forget, number, Nat.reduceBEq, cut?, splice?, builds, List.length_cons, List.length_nil, List.drop_succ_cons, List.drop_zero, List.take_succ_cons, List.take_zero, List.cons_append, List.nil_append, List.append_nil, List.drop_nil, List.take_nil, Nat.reduceAdd, Nat.reduceLeDiff, Nat.zero_add, Nat.add_zero, ↓reduceIte, Bool.not_true, Bool.not_false, decide_true, decide_false, eq_self, bne_self_eq_false, List.getElem?_cons_zero, List.getElem?_cons_succ, decide_eq_true_eq, Bool.false_eq_true, Bool.true_eq_false, reduceCtorEq, Nat.le_refl, MapCmd.enc, e1, e2, e3, hep, e5, hm, k0', k1', hxi, hld, hln]
              exact ⟨_, _, _, rfl, o1, ⟨y, _, (by first | rfl | rw [hm] | simp [hm]), rfl, u⟩, r1⟩
            have hln : ((Range.at_ c.ranges k).lo != q.at_) = false := by simpa using hla
            have hz' := hz hla
            cases hkz : ((k : Int) == 0) with
            | true =>
              rw [hkz] at hz'
              have ha : c.act q = (c, 4) := by simp [Chart.act, k1, hpl, hln, hz']
              rw [ha]
              simp only [run0, run1, run2, run3, run4, noSlot, ownS, ownK, memN, RO.dst, lk, drop, forget, number, Nat.reduceBEq, cut?, splice?, builds, List.length_cons, List.length_nil, List.drop_succ_cons, List.drop_zero, List.take_succ_cons, List.take_zero, List.cons_append, List.nil_append, List.append_nil, List.drop_nil, List.take_nil, Nat.reduceAdd, Nat.reduceLeDiff, Nat.zero_add, Nat.add_zero, ↓reduceIte, Bool.not_true, Bool.not_false, decide_true, decide_false, eq_self, bne_self_eq_false, List.getElem?_cons_zero, List.getElem?_cons_succ, decide_eq_true_eq, Bool.false_eq_true, Bool.true_eq_false, reduceCtorEq, Nat.le_refl, MapCmd.enc, e1, e2, e3, hep, e5, hm, k0', k1', hxi, hld, hln, hkz]
              exact ⟨_, _, _, rfl, o1, ⟨y, _, (by first | rfl | rw [hm] | simp [hm]), rfl, u⟩, r1⟩
            | false =>
              rw [hkz] at hz'
              have hk1 : 1 ≤ k := by simp at hkz; omega
              have hmk1' := hmk1 hk1
              have hwk : IntKind.i64.wrap ((k : Int) - 1) = (k : Int) - 1 := wrapI _ (by omega) (by have := w.le2; omega)
              cases hv : c.mv k with
              | true =>
                rw [hv] at hmk
                have ha : c.act q = (c, 2) := by simp [Chart.act, k1, hpl, hln, hz', hv]
                rw [ha]
                simp only [run0, run1, run2, run3, run4, noSlot, ownS, ownK, memN, RO.dst, lk, drop, forget, number, Nat.reduceBEq, cut?, splice?, builds, List.length_cons, List.length_nil, List.drop_succ_cons, List.drop_zero, List.take_succ_cons, List.take_zero, List.cons_append, List.nil_append, List.append_nil, List.drop_nil, List.take_nil, Nat.reduceAdd, Nat.reduceLeDiff, Nat.zero_add, Nat.add_zero, ↓reduceIte, Bool.not_true, Bool.not_false, decide_true, decide_false, eq_self, bne_self_eq_false, List.getElem?_cons_zero, List.getElem?_cons_succ, decide_eq_true_eq, Bool.false_eq_true, Bool.true_eq_false, reduceCtorEq, Nat.le_refl, MapCmd.enc, e1, e2, e3, hep, e5, hm, k0', k1', hxi, hld, hln, hkz, hmk]
                exact ⟨_, _, _, rfl, o1, ⟨y, _, (by first | rfl | rw [hm] | simp [hm]), rfl, u⟩, r1⟩
              | false =>
                rw [hv] at hmk
                cases hv1 : c.mv (k - 1) with
                | true =>
                  rw [hv1] at hmk1'
                  have ha : c.act q = (c, 2) := by simp [Chart.act, k1, hpl, hln, hz', hv, hv1]
                  rw [ha]
                  simp only [run0, run1, run2, run3, run4, noSlot, ownS, ownK, memN, RO.dst, lk, drop, forget, number, Nat.reduceBEq, cut?, splice?, builds, List.length_cons, List.length_nil, List.drop_succ_cons, List.drop_zero, List.take_succ_cons, List.take_zero, List.cons_append, List.nil_append, List.append_nil, List.drop_nil, List.take_nil, Nat.reduceAdd, Nat.reduceLeDiff, Nat.zero_add, Nat.add_zero, ↓reduceIte, Bool.not_true, Bool.not_false, decide_true, decide_false, eq_self, bne_self_eq_false, List.getElem?_cons_zero, List.getElem?_cons_succ, decide_eq_true_eq, Bool.false_eq_true, Bool.true_eq_false, reduceCtorEq, Nat.le_refl, MapCmd.enc, e1, e2, e3, hep, e5, hm, k0', k1', hxi, hld, hln, hkz, hmk, hwk, hmk1']
                  exact ⟨_, _, _, rfl, o1, ⟨y, _, (by first | rfl | rw [hm] | simp [hm]), rfl, u⟩, r1⟩
                | false =>
                  rw [hv1] at hmk1'
                  have ha : c.act q = c.fin (mergeRg c.ranges ((k : Int) - 1)) := by simp [Chart.act, k1, hpl, hln, hz', hv, hv1]
                  rw [ha]
                  obtain ⟨z, g2, f2, e6, o2, w2, r2⟩ := sMergeRange_c (Z := Z) hS hS11 hf1 w1 ((k : Int) - 1) ok.ranges sm
                  cases hb : (mergeRg c.ranges ((k : Int) - 1)).2 with
                  | false =>
                    rw [hb] at e6
                    obtain ⟨z', h3, f3, e7, o3, w3, r3⟩ := copy (o1.trans o2)
                    simp only [Chart.fin, hb, cond_false]
                    rw [hm] at e7
                    simp only [run0, run1, run2, run3, run4, noSlot, ownS, ownK, memN, RO.dst, lk, drop, forget, number, Nat.reduceBEq, cut?, splice?, builds, List.length_cons, List.length_nil, List.drop_succ_cons, List.drop_zero, List.take_succ_cons, List.take_zero, List.cons_append, List.nil_append, List.append_nil, List.drop_nil, List.take_nil, Nat.reduceAdd, Nat.reduceLeDiff, Nat.zero_add, Nat.add_zero, ↓reduceIte, Bool.not_true, Bool.not_false, decide_true, decide_false, eq_self, bne_self_eq_false, List.getElem?_cons_zero, List.getElem?_cons_succ, decide_eq_true_eq, Bool.false_eq_true, Bool.true_eq_false, reduceCtorEq, Nat.le_refl, MapCmd.enc, e1, e2, e3, hep, e5, hm, k0', k1', hxi, hld, hln, hkz, hmk, hwk, hmk1', e6, e7]
                    exact ⟨_, _, _, rfl, o3, ⟨z', _, (by first | rfl | rw [hm] | simp [hm]), rfl, w3⟩, r3⟩
                  | true =>
                    rw [hb] at e6
                    simp only [Chart.fin, hb, cond_true]
                    simp only [run0, run1, run2, run3, run4, noSlot, ownS, ownK, memN, RO.dst, lk, drop, forget, number, Nat.reduceBEq, cut?, splice?, builds, List.length_cons, List.length_nil, List.drop_succ_cons, List.drop_zero, List.take_succ_cons, List.take_zero, List.cons_append, List.nil_append, List.append_nil, List.drop_nil, List.take_nil, Nat.reduceAdd, Nat.reduceLeDiff, Nat.zero_add, Nat.add_zero, ↓reduceIte, Bool.not_true, Bool.not_false, decide_true, decide_false, eq_self, bne_self_eq_false, List.getElem?_cons_zero, List.getElem?_cons_succ, decide_eq_true_eq, Bool.false_eq_true, Bool.true_eq_false, reduceCtorEq, Nat.le_refl, MapCmd.enc, e1, e2, e3, hep, e5, hm, k0', k1', hxi, hld, hln, hkz, hmk, hwk, hmk1', e6, hepr]
                    exact ⟨_, _, _, rfl, o1.trans o2, ⟨z, _, (by first | rfl | rw [hm] | simp [hm]), rfl, w2⟩, nx r2⟩
          have k1' : (q.kind == 1) = false := by simpa using k1
          by_cases k2 : q.kind = 2
          · have k2' : (q.kind == 2) = true := by simpa using k2
            cases hg : inR q.group 0 99 with
            | false =>
              rw [hg] at e4
              have ha : c.act q = (c, 4) := by simp [Chart.act, k2, hm, hg]
              rw [ha]
              simp only [run0, run1, run2, run3, run4, noSlot, ownS, ownK, memN, RO.dst, lk, drop, forget, number, Nat.reduceBEq, cut?, splice?, builds, List.length_cons, List.length_nil, List.drop_succ_cons, List.drop_zero, List.take_succ_cons, List.take_zero, List.cons_append, List.nil_append, List.append_nil, List.drop_nil, List.take_nil, Nat.reduceAdd, Nat.reduceLeDiff, Nat.zero_add, Nat.add_zero, ↓reduceIte, Bool.not_true, Bool.not_false, decide_true, decide_false, eq_self, bne_self_eq_false, List.getElem?_cons_zero, List.getElem?_cons_succ, decide_eq_true_eq, Bool.false_eq_true, Bool.true_eq_false, reduceCtorEq, Nat.le_refl, MapCmd.enc, e1, e2, e3, hep, e5, hm, k0', k1', k2', e4]
              exact ⟨_, _, _, rfl, o1, ⟨y, _, (by first | rfl | rw [hm] | simp [hm]), rfl, u⟩, r1⟩
            | true =>
              rw [hg] at e4
              by_cases hgr : q.group = (Range.at_ c.ranges k).group
              · have hg1 : (q.group == (Range.at_ c.ranges k).group) = true := by simpa using hgr
                have ha : c.act q = (c, 4) := by simp [Chart.act, k2, hm, hpl, hgr]
                rw [ha]
                simp only [run0, run1, run2, run3, run4, noSlot, ownS, ownK, memN, RO.dst, lk, drop, forget, number, Nat.reduceBEq, cut?, splice?, builds, List.length_cons, List.length_nil, List.drop_succ_cons, List.drop_zero, List.take_succ_cons, List.take_zero, List.cons_append, List.nil_append, List.append_nil, List.drop_nil, List.take_nil, Nat.reduceAdd, Nat.reduceLeDiff, Nat.zero_add, Nat.add_zero, ↓reduceIte, Bool.not_true, Bool.not_false, decide_true, decide_false, eq_self, bne_self_eq_false, List.getElem?_cons_zero, List.getElem?_cons_succ, decide_eq_true_eq, Bool.false_eq_true, Bool.true_eq_false, reduceCtorEq, Nat.le_refl, MapCmd.enc, e1, e2, e3, hep, e5, hm, k0', k1', k2', e4, hxi, hld, hg1]
                exact ⟨_, _, _, rfl, o1, ⟨y, _, (by first | rfl | rw [hm] | simp [hm]), rfl, u⟩, r1⟩
              · have hg1 : (q.group == (Range.at_ c.ranges k).group) = false := by simpa using hgr
                have hg2 : (q.group != (Range.at_ c.ranges k).group) = true := by simpa using hgr
                have ha : c.act q = (⟨c.epoch + 1, c.ranges, true, (Range.at_ c.ranges k).lo, q.group⟩, 0) := by simp [Chart.act, k2, hm, hpl, hg, hg2]
                rw [ha]
                simp only [run0, run1, run2, run3, run4, noSlot, ownS, ownK, memN, RO.dst, lk, drop, forget, number, Nat.reduceBEq, cut?, splice?, builds, List.length_cons, List.length_nil, List.drop_succ_cons, List.drop_zero, List.take_succ_cons, List.take_zero, List.cons_append, List.nil_append, List.append_nil, List.drop_nil, List.take_nil, Nat.reduceAdd, Nat.reduceLeDiff, Nat.zero_add, Nat.add_zero, ↓reduceIte, Bool.not_true, Bool.not_false, decide_true, decide_false, eq_self, bne_self_eq_false, List.getElem?_cons_zero, List.getElem?_cons_succ, decide_eq_true_eq, Bool.false_eq_true, Bool.true_eq_false, reduceCtorEq, Nat.le_refl, MapCmd.enc, e1, e2, e3, hep, e5, hm, k0', k1', k2', e4, hxi, hld, hg1, hepr]
                exact ⟨_, _, _, rfl, o1, ⟨y, _, rfl, rfl, u⟩, r1⟩
          have k2' : (q.kind == 2) = false := by simpa using k2
          have ha : c.act q = (c, 3) := by simp [Chart.act, k0', k1', k2', hm]
          rw [ha]
          simp only [run0, run1, run2, run3, run4, noSlot, ownS, ownK, memN, RO.dst, lk, drop, forget, number, Nat.reduceBEq, cut?, splice?, builds, List.length_cons, List.length_nil, List.drop_succ_cons, List.drop_zero, List.take_succ_cons, List.take_zero, List.cons_append, List.nil_append, List.append_nil, List.drop_nil, List.take_nil, Nat.reduceAdd, Nat.reduceLeDiff, Nat.zero_add, Nat.add_zero, ↓reduceIte, Bool.not_true, Bool.not_false, decide_true, decide_false, eq_self, bne_self_eq_false, List.getElem?_cons_zero, List.getElem?_cons_succ, decide_eq_true_eq, Bool.false_eq_true, Bool.true_eq_false, reduceCtorEq, Nat.le_refl, MapCmd.enc, e1, e2, e3, hep, e5, hm, k0', k1', k2']
          exact ⟨_, _, _, rfl, o1, ⟨y, _, (by first | rfl | rw [hm] | simp [hm]), rfl, u⟩, r1⟩
        case pos =>
          rw [hm] at e1 e2
          have hpc := place_run (Z := Z) hS12 w1 c.lo
          obtain ⟨j, hj, p1, p2, p3, p4, p5⟩ := Chart.mv_place hgd hm ok.lo
          rw [p1] at hpc
          have hmk : (((j : Nat) : Int) == (k : Int)) = c.mv k := by
            rw [Bool.eq_iff_iff, p5 k hkl]; simp; omega
          have hmk1 : 1 ≤ k → (((j : Nat) : Int) == (k : Int) - 1) = c.mv (k - 1) := fun h1 => by
            rw [Bool.eq_iff_iff, p5 (k - 1) (by omega)]; simp; omega
          by_cases k0 : q.kind = 0
          · have k0' : (q.kind == 0) = true := by simpa using k0
            cases hv : c.mv k with
            | true =>
              rw [hv] at hmk
              have ha : c.act q = (c, 2) := by simp [Chart.act, k0, hpl, hv]
              rw [ha]
              simp only [run0, run1, run2, run3, run4, noSlot, ownS, ownK, memN, RO.dst, lk, drop, forget, number, Nat.reduceBEq, cut?, splice?, builds, List.length_cons, List.length_nil, List.drop_succ_cons, List.drop_zero, List.take_succ_cons, List.take_zero, List.cons_append, List.nil_append, List.append_nil, List.drop_nil, List.take_nil, Nat.reduceAdd, Nat.reduceLeDiff, Nat.zero_add, Nat.add_zero, ↓reduceIte, Bool.not_true, Bool.not_false, decide_true, decide_false, eq_self, bne_self_eq_false, List.getElem?_cons_zero, List.getElem?_cons_succ, decide_eq_true_eq, Bool.false_eq_true, Bool.true_eq_false, reduceCtorEq, Nat.le_refl, MapCmd.enc, e1, e2, e3, hep, e5, hm, hpc, k0', hmk]
              exact ⟨_, _, _, rfl, o1, ⟨y, _, (by first | rfl | rw [hm] | simp [hm]), rfl, u⟩, r1⟩
            | false =>
              rw [hv] at hmk
              have ha : c.act q = c.fin (splitRg c.ranges q.at_ (Range.at_ c.ranges k).group) := by simp [Chart.act, k0, hpl, hv]
              rw [ha]
              obtain ⟨z, h2, g2, f2, e6, hg2, o2, w2, r2⟩ := sSplitRange_q (Z := Z) hS hS11 w1 q.at_ (Range.at_ c.ranges k).group okq.at_ ok.ranges sm
              cases hb : (splitRg c.ranges q.at_ (Range.at_ c.ranges k).group).2 with
              | false =>
                rw [hb] at e6
                obtain ⟨z', h3, f3, e7, o3, w3, r3⟩ := copy (o1.trans o2)
                simp only [Chart.fin, hb, cond_false]
                rw [hm] at e7
                simp only [run0, run1, run2, run3, run4, noSlot, ownS, ownK, memN, RO.dst, lk, drop, forget, number, Nat.reduceBEq, cut?, splice?, builds, List.length_cons, List.length_nil, List.drop_succ_cons, List.drop_zero, List.take_succ_cons, List.take_zero, List.cons_append, List.nil_append, List.append_nil, List.drop_nil, List.take_nil, Nat.reduceAdd, Nat.reduceLeDiff, Nat.zero_add, Nat.add_zero, ↓reduceIte, Bool.not_true, Bool.not_false, decide_true, decide_false, eq_self, bne_self_eq_false, List.getElem?_cons_zero, List.getElem?_cons_succ, decide_eq_true_eq, Bool.false_eq_true, Bool.true_eq_false, reduceCtorEq, Nat.le_refl, MapCmd.enc, e1, e2, e3, hep, e5, hm, hpc, k0', hmk, hxi, hld, e6, hg2, e7]
                exact ⟨_, _, _, rfl, o3, ⟨z', _, (by first | rfl | rw [hm] | simp [hm]), rfl, w3⟩, r3⟩
              | true =>
                rw [hb] at e6
                simp only [Chart.fin, hb, cond_true]
                simp only [run0, run1, run2, run3, run4, noSlot, ownS, ownK, memN, RO.dst, lk, drop, forget, number, Nat.reduceBEq, cut?, splice?, builds, List.length_cons, List.length_nil, List.drop_succ_cons, List.drop_zero, List.take_succ_cons, List.take_zero, List.cons_append, List.nil_append, List.append_nil, List.drop_nil, List.take_nil, Nat.reduceAdd, Nat.reduceLeDiff, Nat.zero_add, Nat.add_zero, ↓reduceIte, Bool.not_true, Bool.not_false, decide_true, decide_false, eq_self, bne_self_eq_false, List.getElem?_cons_zero, List.getElem?_cons_succ, decide_eq_true_eq, Bool.false_eq_true, Bool.true_eq_false, reduceCtorEq, Nat.le_refl, MapCmd.enc, e1, e2, e3, hep, e5, hm, hpc, k0', hmk, hxi, hld, e6, hg2, hepr]
                exact ⟨_, _, _, rfl, o1.trans o2, ⟨z, _, (by first | rfl | rw [hm] | simp [hm]), rfl, w2⟩, nx r2⟩
          have k0' : (q.kind == 0) = false := by simpa using k0
          by_cases k1 : q.kind = 1
          · have k1' : (q.kind == 1) = true := by simpa using k1
            by_cases hla : (Range.at_ c.ranges k).lo = q.at_
            case neg =>
              have hln : ((Range.at_ c.ranges k).lo != q.at_) = true := by simpa using hla
              have ha : c.act q = (c, 4) := by simp [Chart.act, k1, hpl, hln]
              rw [ha]
              simp only [run0, run1, run2, run3, run4, noSlot, ownS, ownK, memN, RO.dst, lk, drop, forget, number, Nat.reduceBEq, cut?, splice?, builds, List.length_cons, List.length_nil, List.drop_succ_cons, List.drop_zero, List.take_succ_cons, List.take_zero, List.cons_append, List.nil_append, List.append_nil, List.drop_nil, List.take_nil, Nat.reduceAdd, Nat.reduceLeDiff, Nat.zero_add, Nat.add_zero, ↓reduceIte, Bool.not_true, Bool.not_false, decide_true, decide_false, eq_self, bne_self_eq_false, List.getElem?_cons_zero, List.getElem?_cons_succ, decide_eq_true_eq, Bool.false_eq_true, Bool.true_eq_false, reduceCtorEq, Nat.le_refl, MapCmd.enc, e1, e2, e3, hep, e5, hm, hpc, k0', k1', hxi, hld, hln]
              exact ⟨_, _, _, rfl, o1, ⟨y, _, (by first | rfl | rw [hm] | simp [hm]), rfl, u⟩, r1⟩
            have hln : ((Range.at_ c.ranges k).lo != q.at_) = false := by simpa using hla
            have hz' := hz hla
            cases hkz : ((k : Int) == 0) with
            | true =>
              rw [hkz] at hz'
              have ha : c.act q = (c, 4) := by simp [Chart.act, k1, hpl, hln, hz']
              rw [ha]
              simp only [run0, run1, run2, run3, run4, noSlot, ownS, ownK, memN, RO.dst, lk, drop, forget, number, Nat.reduceBEq, cut?, splice?, builds, List.length_cons, List.length_nil, List.drop_succ_cons, List.drop_zero, List.take_succ_cons, List.take_zero, List.cons_append, List.nil_append, List.append_nil, List.drop_nil, List.take_nil, Nat.reduceAdd, Nat.reduceLeDiff, Nat.zero_add, Nat.add_zero, ↓reduceIte, Bool.not_true, Bool.not_false, decide_true, decide_false, eq_self, bne_self_eq_false, List.getElem?_cons_zero, List.getElem?_cons_succ, decide_eq_true_eq, Bool.false_eq_true, Bool.true_eq_false, reduceCtorEq, Nat.le_refl, MapCmd.enc, e1, e2, e3, hep, e5, hm, hpc, k0', k1', hxi, hld, hln, hkz]
              exact ⟨_, _, _, rfl, o1, ⟨y, _, (by first | rfl | rw [hm] | simp [hm]), rfl, u⟩, r1⟩
            | false =>
              rw [hkz] at hz'
              have hk1 : 1 ≤ k := by simp at hkz; omega
              have hmk1' := hmk1 hk1
              have hwk : IntKind.i64.wrap ((k : Int) - 1) = (k : Int) - 1 := wrapI _ (by omega) (by have := w.le2; omega)
              cases hv : c.mv k with
              | true =>
                rw [hv] at hmk
                have ha : c.act q = (c, 2) := by simp [Chart.act, k1, hpl, hln, hz', hv]
                rw [ha]
                simp only [run0, run1, run2, run3, run4, noSlot, ownS, ownK, memN, RO.dst, lk, drop, forget, number, Nat.reduceBEq, cut?, splice?, builds, List.length_cons, List.length_nil, List.drop_succ_cons, List.drop_zero, List.take_succ_cons, List.take_zero, List.cons_append, List.nil_append, List.append_nil, List.drop_nil, List.take_nil, Nat.reduceAdd, Nat.reduceLeDiff, Nat.zero_add, Nat.add_zero, ↓reduceIte, Bool.not_true, Bool.not_false, decide_true, decide_false, eq_self, bne_self_eq_false, List.getElem?_cons_zero, List.getElem?_cons_succ, decide_eq_true_eq, Bool.false_eq_true, Bool.true_eq_false, reduceCtorEq, Nat.le_refl, MapCmd.enc, e1, e2, e3, hep, e5, hm, hpc, k0', k1', hxi, hld, hln, hkz, hmk]
                exact ⟨_, _, _, rfl, o1, ⟨y, _, (by first | rfl | rw [hm] | simp [hm]), rfl, u⟩, r1⟩
              | false =>
                rw [hv] at hmk
                cases hv1 : c.mv (k - 1) with
                | true =>
                  rw [hv1] at hmk1'
                  have ha : c.act q = (c, 2) := by simp [Chart.act, k1, hpl, hln, hz', hv, hv1]
                  rw [ha]
                  simp only [run0, run1, run2, run3, run4, noSlot, ownS, ownK, memN, RO.dst, lk, drop, forget, number, Nat.reduceBEq, cut?, splice?, builds, List.length_cons, List.length_nil, List.drop_succ_cons, List.drop_zero, List.take_succ_cons, List.take_zero, List.cons_append, List.nil_append, List.append_nil, List.drop_nil, List.take_nil, Nat.reduceAdd, Nat.reduceLeDiff, Nat.zero_add, Nat.add_zero, ↓reduceIte, Bool.not_true, Bool.not_false, decide_true, decide_false, eq_self, bne_self_eq_false, List.getElem?_cons_zero, List.getElem?_cons_succ, decide_eq_true_eq, Bool.false_eq_true, Bool.true_eq_false, reduceCtorEq, Nat.le_refl, MapCmd.enc, e1, e2, e3, hep, e5, hm, hpc, k0', k1', hxi, hld, hln, hkz, hmk, hwk, hmk1']
                  exact ⟨_, _, _, rfl, o1, ⟨y, _, (by first | rfl | rw [hm] | simp [hm]), rfl, u⟩, r1⟩
                | false =>
                  rw [hv1] at hmk1'
                  have ha : c.act q = c.fin (mergeRg c.ranges ((k : Int) - 1)) := by simp [Chart.act, k1, hpl, hln, hz', hv, hv1]
                  rw [ha]
                  obtain ⟨z, g2, f2, e6, o2, w2, r2⟩ := sMergeRange_c (Z := Z) hS hS11 hf1 w1 ((k : Int) - 1) ok.ranges sm
                  cases hb : (mergeRg c.ranges ((k : Int) - 1)).2 with
                  | false =>
                    rw [hb] at e6
                    obtain ⟨z', h3, f3, e7, o3, w3, r3⟩ := copy (o1.trans o2)
                    simp only [Chart.fin, hb, cond_false]
                    rw [hm] at e7
                    simp only [run0, run1, run2, run3, run4, noSlot, ownS, ownK, memN, RO.dst, lk, drop, forget, number, Nat.reduceBEq, cut?, splice?, builds, List.length_cons, List.length_nil, List.drop_succ_cons, List.drop_zero, List.take_succ_cons, List.take_zero, List.cons_append, List.nil_append, List.append_nil, List.drop_nil, List.take_nil, Nat.reduceAdd, Nat.reduceLeDiff, Nat.zero_add, Nat.add_zero, ↓reduceIte, Bool.not_true, Bool.not_false, decide_true, decide_false, eq_self, bne_self_eq_false, List.getElem?_cons_zero, List.getElem?_cons_succ, decide_eq_true_eq, Bool.false_eq_true, Bool.true_eq_false, reduceCtorEq, Nat.le_refl, MapCmd.enc, e1, e2, e3, hep, e5, hm, hpc, k0', k1', hxi, hld, hln, hkz, hmk, hwk, hmk1', e6, e7]
                    exact ⟨_, _, _, rfl, o3, ⟨z', _, (by first | rfl | rw [hm] | simp [hm]), rfl, w3⟩, r3⟩
                  | true =>
                    rw [hb] at e6
                    simp only [Chart.fin, hb, cond_true]
                    simp only [run0, run1, run2, run3, run4, noSlot, ownS, ownK, memN, RO.dst, lk, drop, forget, number, Nat.reduceBEq, cut?, splice?, builds, List.length_cons, List.length_nil, List.drop_succ_cons, List.drop_zero, List.take_succ_cons, List.take_zero, List.cons_append, List.nil_append, List.append_nil, List.drop_nil, List.take_nil, Nat.reduceAdd, Nat.reduceLeDiff, Nat.zero_add, Nat.add_zero, ↓reduceIte, Bool.not_true, Bool.not_false, decide_true, decide_false, eq_self, bne_self_eq_false, List.getElem?_cons_zero, List.getElem?_cons_succ, decide_eq_true_eq, Bool.false_eq_true, Bool.true_eq_false, reduceCtorEq, Nat.le_refl, MapCmd.enc, e1, e2, e3, hep, e5, hm, hpc, k0', k1', hxi, hld, hln, hkz, hmk, hwk, hmk1', e6, hepr]
                    exact ⟨_, _, _, rfl, o1.trans o2, ⟨z, _, (by first | rfl | rw [hm] | simp [hm]), rfl, w2⟩, nx r2⟩
          have k1' : (q.kind == 1) = false := by simpa using k1
          by_cases k2 : q.kind = 2
          · have k2' : (q.kind == 2) = true := by simpa using k2
            have ha : c.act q = (c, 2) := by simp [Chart.act, k2, hm]
            rw [ha]
            simp only [run0, run1, run2, run3, run4, noSlot, ownS, ownK, memN, RO.dst, lk, drop, forget, number, Nat.reduceBEq, cut?, splice?, builds, List.length_cons, List.length_nil, List.drop_succ_cons, List.drop_zero, List.take_succ_cons, List.take_zero, List.cons_append, List.nil_append, List.append_nil, List.drop_nil, List.take_nil, Nat.reduceAdd, Nat.reduceLeDiff, Nat.zero_add, Nat.add_zero, ↓reduceIte, Bool.not_true, Bool.not_false, decide_true, decide_false, eq_self, bne_self_eq_false, List.getElem?_cons_zero, List.getElem?_cons_succ, decide_eq_true_eq, Bool.false_eq_true, Bool.true_eq_false, reduceCtorEq, Nat.le_refl, MapCmd.enc, e1, e2, e3, hep, e5, hm, hpc, k0', k1', k2']
            exact ⟨_, _, _, rfl, o1, ⟨y, _, (by first | rfl | rw [hm] | simp [hm]), rfl, u⟩, r1⟩
          have k2' : (q.kind == 2) = false := by simpa using k2
          cases k3 : (q.kind == 3) with
          | true =>
            have hto : inR c.to 0 99 = true := by
              simp only [Chart.good, hm, cond_true, Bool.and_eq_true] at hgd
              exact hgd.2.2.2.1
            have hjr : inR ((j : Nat) : Int) 0 ((c.ranges.length : Int) - 1) = true := by simp [inR]; omega
            obtain ⟨z, g2, f2, e6, o2, w2, r2⟩ := sMoveRange_c (Z := Z) hS hS11 hf1 w1 ((j : Nat) : Int) c.to ok.ranges sm
            rw [move_yes_ (by simp [hr, hjr, hto])] at e6 w2
            simp only [Int.toNat_natCast] at e6 w2
            have ha : c.act q = (⟨c.epoch + 1, c.ranges.set j ⟨(Range.at_ c.ranges j).lo, (Range.at_ c.ranges j).hi, c.to⟩, false, 0, 0⟩, 0) := by simp [Chart.act, k0', k1', k2', k3, hm, p2]
            rw [ha]
            simp only [run0, run1, run2, run3, run4, noSlot, ownS, ownK, memN, RO.dst, lk, drop, forget, number, Nat.reduceBEq, cut?, splice?, builds, List.length_cons, List.length_nil, List.drop_succ_cons, List.drop_zero, List.take_succ_cons, List.take_zero, List.cons_append, List.nil_append, List.append_nil, List.drop_nil, List.take_nil, Nat.reduceAdd, Nat.reduceLeDiff, Nat.zero_add, Nat.add_zero, ↓reduceIte, Bool.not_true, Bool.not_false, decide_true, decide_false, eq_self, bne_self_eq_false, List.getElem?_cons_zero, List.getElem?_cons_succ, decide_eq_true_eq, Bool.false_eq_true, Bool.true_eq_false, reduceCtorEq, Nat.le_refl, MapCmd.enc, e1, e2, e3, hep, e5, hm, hpc, k0', k1', k2', k3, e6, hepr]
            exact ⟨_, _, _, rfl, o1.trans o2, ⟨z, _, rfl, rfl, w2⟩, nx r2⟩
          | false =>
            have ha : c.act q = (⟨c.epoch + 1, c.ranges, false, 0, 0⟩, 0) := by simp [Chart.act, k0', k1', k2', k3, hm]
            rw [ha]
            simp only [run0, run1, run2, run3, run4, noSlot, ownS, ownK, memN, RO.dst, lk, drop, forget, number, Nat.reduceBEq, cut?, splice?, builds, List.length_cons, List.length_nil, List.drop_succ_cons, List.drop_zero, List.take_succ_cons, List.take_zero, List.cons_append, List.nil_append, List.append_nil, List.drop_nil, List.take_nil, Nat.reduceAdd, Nat.reduceLeDiff, Nat.zero_add, Nat.add_zero, ↓reduceIte, Bool.not_true, Bool.not_false, decide_true, decide_false, eq_self, bne_self_eq_false, List.getElem?_cons_zero, List.getElem?_cons_succ, decide_eq_true_eq, Bool.false_eq_true, Bool.true_eq_false, reduceCtorEq, Nat.le_refl, MapCmd.enc, e1, e2, e3, hep, e5, hm, hpc, k0', k1', k2', k3, hepr]
            exact ⟨_, _, _, rfl, o1, ⟨y, _, rfl, rfl, u⟩, r1⟩
end
end Go.Proofs.Ytlbagejkjkfkjaa.A
/- Commands done with a chart one by one: what stays right; the play of commands on data; codes gathered beside a chart. -/
namespace Go.Proofs.Ytlbagejkjkfkjaa.A
open Go
set_option linter.unusedSimpArgs false
set_option linter.unusedVariables false
theorem Range.at_ok {xs : List Range} (h : ∀ t, t ∈ xs → t.Ok) (i : Nat) : (Range.at_ xs i).Ok := by
  unfold Range.at_
  cases hx : xs[i]? with
  | none => exact ⟨by simp [Range.none_], by simp [Range.none_], by simp [Range.none_]⟩
  | some t => exact h t (List.mem_of_getElem? hx)
theorem cutRg_ok {xs : List Range} (h : ∀ t, t ∈ xs → t.Ok) (k : Nat) {a g : Int} (ha : 1 ≤ a ∧ a ≤ 18446744073709551615) (hg : -9223372036854775808 ≤ g ∧ g ≤ 9223372036854775807) : ∀ t, t ∈ cutRg xs k a g → t.Ok := by
  intro t ht
  have h0 := Range.at_ok h k
  simp only [cutRg, List.mem_append, List.mem_cons, List.not_mem_nil, or_false] at ht
  rcases ht with (ht | ht | ht) | ht
  · exact h t (List.mem_of_mem_take ht)
  · subst ht; exact ⟨h0.lo, ⟨by show 0 ≤ a - 1; omega, by show a - 1 ≤ _; omega⟩, h0.group⟩
  · subst ht; exact ⟨⟨by show 0 ≤ a; omega, ha.2⟩, h0.hi, hg⟩
  · exact h t (List.mem_of_mem_drop ht)
theorem splitRg_ok {xs : List Range} (hr : rangesOk xs = true) (h : ∀ t, t ∈ xs → t.Ok) {a g : Int} (ha : 0 ≤ a ∧ a ≤ 18446744073709551615) (hg : -9223372036854775808 ≤ g ∧ g ≤ 9223372036854775807) : ∀ t, t ∈ (splitRg xs a g).1 → t.Ok := by
  obtain ⟨i, h1, h2, h3, h4, h5⟩ := (rangesOk_fit hr).has ha.1 ha.2
  unfold splitRg
  cases (rangesOk xs && (inR g 0 99 && !((xs.length : Int) == 24))) <;> simp only [cond_true, cond_false]
  · intro t ht; simp at ht
  · rw [h2]
    cases hlo : ((Range.at_ xs ((i : Nat) : Int).toNat).lo == a) with
    | true => intro t ht; simp at ht
    | false =>
      simp only [Int.toNat_natCast, beq_eq_false_iff_ne] at hlo
      have := (Range.at_ok h i).lo
      exact cutRg_ok h _ ⟨by omega, ha.2⟩ hg
theorem mergeRg_ok {xs : List Range} (h : ∀ t, t ∈ xs → t.Ok) (k : Int) : ∀ t, t ∈ (mergeRg xs k).1 → t.Ok := by
  unfold mergeRg
  cases (rangesOk xs && (decide (0 ≤ k) && (decide (k < (xs.length : Int) - 1) && ((Range.at_ xs k.toNat).group == (Range.at_ xs (k.toNat + 1)).group)))) <;> simp only [cond_true, cond_false]
  · intro t ht; simp at ht
  · intro t ht
    have ht := List.mem_of_mem_eraseIdx ht
    rcases List.mem_or_eq_of_mem_set ht with ht | ht
    · exact h t ht
    · subst ht; exact ⟨(Range.at_ok h _).lo, (Range.at_ok h _).hi, (Range.at_ok h _).group⟩
theorem doMap_ok {c : Chart} (ok : c.Ok) {q : MapCmd} (okq : q.Ok) : (doMap c q).1.Ok := by
  cases hgd : (c.good && (inR q.kind 0 4 && !(c.epoch == 1000000))) with
  | false => simp only [doMap, hgd, cond_false]; exact ok
  | true =>
    simp only [doMap, hgd, cond_true]
    have hg : c.good = true := by simp only [Bool.and_eq_true] at hgd; exact hgd.1
    have hr := Chart.good_ranges hg
    have hep : 1 ≤ c.epoch ∧ c.epoch ≤ 1000000 := by
      simp only [Chart.good, inR, Bool.and_eq_true, decide_eq_true_eq] at hg; exact hg.1
    have he : -9223372036854775808 ≤ c.epoch + 1 ∧ c.epoch + 1 ≤ 9223372036854775807 := by omega
    have fin : ∀ p : List Range × Bool, (∀ t, t ∈ p.1 → t.Ok) → (c.fin p).1.Ok := fun p hp => by
      unfold Chart.fin
      cases p.2
      · exact ok
      · exact ⟨he, hp, ok.lo, ok.to⟩
    unfold Chart.act
    cases (q.kind == 0) <;> simp only [cond_true, cond_false]
    · cases (q.kind == 1) <;> simp only [cond_true, cond_false]
      · cases (q.kind == 2) <;> simp only [cond_true, cond_false]
        · cases c.moving <;> simp only [cond_true, cond_false]
          · exact ok
          · refine ⟨he, ?_, by simp, by simp⟩
            cases (q.kind == 3) <;> simp only [cond_true, cond_false]
            · exact ok.ranges
            · intro t ht
              rcases List.mem_or_eq_of_mem_set ht with ht | ht
              · exact ok.ranges t ht
              · subst ht; exact ⟨(Range.at_ok ok.ranges _).lo, (Range.at_ok ok.ranges _).hi, ok.to⟩
        · cases c.moving <;> simp only [cond_true, cond_false]
          · cases (inR q.group 0 99 && (q.group != (Range.at_ c.ranges (c.pl q.at_)).group)) <;> simp only [cond_true, cond_false]
            · exact ok
            · exact ⟨he, ok.ranges, (Range.at_ok ok.ranges _).lo, okq.group⟩
          · exact ok
      · cases (((Range.at_ c.ranges (c.pl q.at_)).lo != q.at_) || (q.at_ == 0)) <;> simp only [cond_true, cond_false]
        · cases (c.mv (c.pl q.at_) || c.mv (c.pl q.at_ - 1)) <;> simp only [cond_true, cond_false]
          · exact fin _ (mergeRg_ok ok.ranges _)
          · exact ok
        · exact ok
    · cases c.mv (c.pl q.at_) <;> simp only [cond_true, cond_false]
      · exact fin _ (splitRg_ok hr ok.ranges okq.at_ (Range.at_ok ok.ranges _).group)
      · exact ok
def mapStep (a : Chart × List Int) (q : MapCmd) : Chart × List Int := ((doMap a.1 q).1, a.2 ++ [(doMap a.1 q).2])
def playMap (c : Chart) (qs : List MapCmd) : Chart × List Int := bif c.good && decide (qs.length ≤ 200) then qs.foldl mapStep (c, []) else (c, [])
theorem mapStep_small {qs : List MapCmd} : ∀ {a : Chart × List Int}, a.1.Small → (qs.foldl mapStep a).1.Small := by
  induction qs with
  | nil => intro a h; exact h
  | cons q r ih => intro a h; exact ih (doMap_small h q)
theorem playMap_small {c : Chart} (sm : c.Small) (qs : List MapCmd) : (playMap c qs).1.Small := by
  unfold playMap
  cases (c.good && decide (qs.length ≤ 200))
  · exact sm
  · exact mapStep_small (a := (c, [])) sm
theorem mapStep_len (qs : List MapCmd) : ∀ a : Chart × List Int, (qs.foldl mapStep a).2.length = a.2.length + qs.length := by
  induction qs with
  | nil => intro a; rfl
  | cons q r ih => intro a; rw [List.foldl_cons, ih]; simp [mapStep]; omega
theorem playMap_len (c : Chart) (qs : List MapCmd) : (playMap c qs).2.length ≤ 200 := by
  unfold playMap
  cases h : (c.good && decide (qs.length ≤ 200))
  · simp
  · simp only [Bool.and_eq_true, decide_eq_true_eq] at h
    simp only [cond_true]
    rw [mapStep_len]; simpa using h.2
end Go.Proofs.Ytlbagejkjkfkjaa.A
/- The play of commands: the reference's way. -/
namespace Go.Proofs.Ytlbagejkjkfkjaa.A
open Go
set_option linter.unusedSimpArgs false
set_option linter.unusedVariables false
section
variable {F : Nat → Option RF} {Z : CallF} {h g : Heap} {cs : List Cell} {c : Chart} {fp fq : List Nat} {x y : Cell} {qs : List MapCmd} {rows : List (List Cell)}
abbrev zChart : List Cell := [.int .i64 0, .nil, .bool false, .int .u64 0, .int .i64 0]
set_option maxHeartbeats 1000000 in
theorem sMapPlay_turn (hS : Has F tS01d) (hS11 : Has F tS11) (hS12 : Has F tS12) (hf : h.floor ≤ h.next) (w : SlR 14 (Fl MapCmd.enc) h x qs fp) (okq : ∀ q, q ∈ qs → q.Ok)
    (J : Beside Chart.RI 15 h g y rows cs c fq) (ok : c.Ok) (sm : c.Small) (i : Nat) (hi : i < qs.length) (hl : rows.length ≤ i) (h2 : qs.length ≤ 200) :
    ∃ y' g' cs' fq', Beside Chart.RI 15 h g' y' (rows ++ [[.int .i64 (doMap c qs[i]).2]]) cs' (doMap c qs[i]).1 fq' ∧
      loop F Z [1, 4, 6, 7, 8] r187L0 ⟨[(1, .c x), (7, .c y), (8, .c (.int .i64 ((i : Nat) : Int)))], [(4, 4, 0), (6, 6, 0)], [(4, zChart), (6, cs)], g⟩ =
      loop F Z [1, 4, 6, 7, 8] r187L0 ⟨[(1, .c x), (7, .c y'), (8, .c (.int .i64 ((i + 1 : Nat) : Int)))], [(4, 4, 0), (6, 6, 0)], [(4, zChart), (6, cs')], g'⟩ := by
  have hle := w.le
  unfold maxLen at hle
  have hlt : (i : Int) < qs.length := by omega
  have wg := w.on (Fl.ok _) J.acc.on
  have hws := wrapS i (by omega)
  obtain ⟨l1, l2, l3⟩ := Chart.lenI J.v
  obtain ⟨cs1, hq, f1, e, oq, uq, rq⟩ := sDoMap_c (Z := Z) (h := ⟨g.next, g.next, g.get⟩) hS hS11 hS12 (Nat.le_refl _) (Chart.okI.up J.v _) qs[i] (okq _ (List.getElem_mem hi)) ok sm
  obtain ⟨g1, mq⟩ : ∃ g', Heap.mk hq.next g.floor hq.get = g' := ⟨_, rfl⟩
  have o1 : On g g1 := by rw [← mq]; exact ⟨⟨oq.ext.1, oq.ext.2⟩, rfl⟩
  have u := Chart.okI.up uq g.floor
  rw [mq] at u
  have r1 : Fre g f1 := ⟨rq.lo, rq.nd⟩
  obtain ⟨k1, k2, k3⟩ := Chart.lenI u
  have e1 := (J.acc.go o1).one_eq hf (bytes := 8) (by omega) [.int .i64 (doMap c qs[i]).2]
  have hix := w.idx hi
  have hld := wg.load hi
  have st := J.step Chart.okI hf (by omega) o1 u r1 [.int .i64 (doMap c qs[i]).2]
  refine ⟨_, _, _, _, st, ?_⟩
  simp only [MapCmd.enc] at e hld
  rw [loop_run]
  conv in (codeF _ _ r187L0 _) => unfold r187L0
  simp only [run0, run1, run2, run3, run4, noSlot, ownS, ownK, memN, RO.dst, lk, drop, forget, number, Nat.reduceBEq, cut?, splice?, builds, List.length_cons, List.length_nil, List.drop_succ_cons, List.drop_zero, List.take_succ_cons, List.take_zero, List.cons_append, List.nil_append, List.append_nil, List.drop_nil, List.take_nil, Nat.reduceAdd, Nat.reduceLeDiff, Nat.zero_add, Nat.add_zero, ↓reduceIte, Bool.not_true, Bool.not_false, decide_true, decide_false, eq_self, bne_self_eq_false, List.getElem?_cons_zero, List.getElem?_cons_succ, decide_eq_true_eq, Bool.false_eq_true, Bool.true_eq_false, reduceCtorEq, Nat.le_refl, w.len, hlt, hix, hld, l1, l2, l3, e, mq, k1, k2, k3, hws, List.replicate_succ, List.replicate_zero, fills, and_self, Nat.zero_lt_one, List.set_cons_zero, e1]
/-- What the play leaves. -/
def Played (h h' : Heap) (cs : List Cell) (y : Cell) (p : Chart × List Int) (f1 f2 : List Nat) : Prop := On h h' ∧ Chart.RI h' cs p.1 f1 ∧ Fre h f1 ∧ SlR 15 (Fl int_enc) h' y p.2 f2 ∧ Fre h f2 ∧ ∀ id, id ∈ f1 → id ∉ f2
theorem Beside.played {p : Chart × List Int} (J : Beside Chart.RI 15 h g y (p.2.map int_enc) cs p.1 fq) : ∃ f2, Played h g cs y p fq f2 := by
  obtain ⟨fy, h1, h2, h3⟩ := J.dj
  exact ⟨fy, J.acc.on, J.v, J.fr, SlR.ofRaw h1, h2, h3⟩
theorem Beside.start {x : Cell} {p : List Nat} (v : Chart.RI g cs c p) (o : On h g) (f : Fre h p) : Beside Chart.RI 15 h (g.push []) (.sl 15 g.next 0 0) [] cs c p := by
  have hlt := Chart.okI.lt v
  refine ⟨Acc.lit0 o, Chart.okI.on v (On.push g []), f, ?_⟩
  obtain ⟨fy, h1, h2⟩ := (Acc.lit0 (tag := 15) o).sh
  refine ⟨fy, h1, h2, fun id hid hy => ?_⟩
  rcases h1.flat with ⟨_, _, h3⟩ | ⟨_, _, _, h3⟩
  · rw [h3] at hy; cases hy
  · rw [h3] at hy
    have := hlt id hid
    simp [Cell.sid] at hy; omega
def PInv (h : Heap) (st : Cell → List Cell → Heap → Nat → St) (i : Nat) (a : Chart × List Int) (s : St) : Prop :=
  ∃ y g cs fq, s = st y cs g i ∧ Beside Chart.RI 15 h g y (a.2.map int_enc) cs a.1 fq ∧ a.1.Ok ∧ a.1.Small ∧ a.2.length ≤ i
theorem sPlayMap_c (hS : Has F tS01d) (hS11 : Has F tS11) (hS12 : Has F tS12) (hf : h.floor ≤ h.next) (v : Chart.RI h cs c fp) (w : SlR 14 (Fl MapCmd.enc) h x qs fq) (ok : c.Ok) (sm : c.Small) (okq : ∀ q, q ∈ qs → q.Ok) :
    ∃ cs' y h' f1 f2, call F Z 187 [.agg cs, .c x] h = some (.tup [.agg cs', .c y], h') ∧ Played h h' cs' y (playMap c qs) f1 f2 := by
  obtain ⟨l1, l2, l3⟩ := Chart.lenI v
  obtain ⟨cs1, h1, f1, e1, o1, u1, r1⟩ := l12Copy_c (Z := Z) hS12 hf v sm
  obtain ⟨k1, k2, k3⟩ := Chart.lenI u1
  have e2 := sChartOk_run (Z := Z) hS hS11 hS12 v ok
  rw [call_run F Z (hS12.lk (g := 187) rfl) _ _ rfl]
  cases hg : c.good with
  | false =>
    rw [hg] at e2
    simp only [run0, run1, run2, run3, run4, noSlot, ownS, ownK, memN, RO.dst, lk, drop, forget, number, Nat.reduceBEq, cut?, splice?, builds, List.length_cons, List.length_nil, List.drop_succ_cons, List.drop_zero, List.take_succ_cons, List.take_zero, List.cons_append, List.nil_append, List.append_nil, List.drop_nil, List.take_nil, Nat.reduceAdd, Nat.reduceLeDiff, Nat.zero_add, Nat.add_zero, ↓reduceIte, Bool.not_true, Bool.not_false, decide_true, decide_false, eq_self, bne_self_eq_false, List.getElem?_cons_zero, List.getElem?_cons_succ, decide_eq_true_eq, Bool.false_eq_true, Bool.true_eq_false, reduceCtorEq, Nat.le_refl, l1, l2, l3, e1, k1, k2, k3, e2]
    exact ⟨_, _, _, _, _, rfl, o1, by simp only [playMap, hg, Bool.false_and, cond_false]; exact u1, r1, by simp only [playMap, hg, Bool.false_and, cond_false]; exact SlR.nil _ _ _, Fre.nil _, fun _ _ h => nomatch h⟩
  | true =>
    rw [hg] at e2
    by_cases hq : (200 : Int) < qs.length
    · have hd : playMap c qs = (c, []) := by simp only [playMap, hg, Bool.true_and, show decide (qs.length ≤ 200) = false from by simp; omega, cond_false]
      simp only [run0, run1, run2, run3, run4, noSlot, ownS, ownK, memN, RO.dst, lk, drop, forget, number, Nat.reduceBEq, cut?, splice?, builds, List.length_cons, List.length_nil, List.drop_succ_cons, List.drop_zero, List.take_succ_cons, List.take_zero, List.cons_append, List.nil_append, List.append_nil, List.drop_nil, List.take_nil, Nat.reduceAdd, Nat.reduceLeDiff, Nat.zero_add, Nat.add_zero, ↓reduceIte, Bool.not_true, Bool.not_false, decide_true, decide_false, eq_self, bne_self_eq_false, List.getElem?_cons_zero, List.getElem?_cons_succ, decide_eq_true_eq, Bool.false_eq_true, Bool.true_eq_false, reduceCtorEq, Nat.le_refl, l1, l2, l3, e1, k1, k2, k3, e2, w.len, gt_iff_lt, hq]
      exact ⟨_, _, _, _, _, rfl, o1, by rw [hd]; exact u1, r1, by rw [hd]; exact SlR.nil _ _ _, Fre.nil _, fun _ _ h => nomatch h⟩
    · have hd : playMap c qs = qs.foldl mapStep (c, []) := by simp only [playMap, hg, Bool.true_and, show decide (qs.length ≤ 200) = true from by simp; omega, cond_true]
      obtain ⟨s', ⟨y', g', cs', fq', hs', J', _⟩, le⟩ := loop_fold (F := F) (Z := Z) (live := [1, 4, 6, 7, 8]) (b := r187L0) qs mapStep
        (PInv h fun y cs g i => ⟨[(1, .c x), (7, .c y), (8, .c (.int .i64 ((i : Nat) : Int)))], [(4, 4, 0), (6, 6, 0)], [(4, zChart), (6, cs)], g⟩) (fun i hi a s ⟨y, g, cs, fq, hs, J, oka, sma, hla⟩ => by
          subst hs
          obtain ⟨y', g', cs', fq', J', e'⟩ := sMapPlay_turn (F := F) (Z := Z) hS hS11 hS12 hf w okq J oka sma i hi (by simpa using hla) (by omega)
          exact ⟨_, ⟨y', g', cs', fq', rfl, by simpa [mapStep, int_enc] using J', doMap_ok oka (okq _ (List.getElem_mem hi)), doMap_small sma _, by simp [mapStep]; omega⟩, e'⟩) (a := (c, []))
        (s := ⟨[(1, .c x), (7, .c (.sl 15 h1.next 0 0)), (8, .c (.int .i64 ((0 : Nat) : Int)))], [(4, 4, 0), (6, 6, 0)], [(4, zChart), (6, cs1)], h1.push []⟩)
        ⟨_, _, _, _, rfl, Beside.start (x := x) u1 o1 r1, ok, sm, by simp⟩
      subst hs'
      rw [← hd] at J'
      simp only [show ((0 : Nat) : Int) = 0 from rfl, zChart] at le
      obtain ⟨m1, m2, m3⟩ := Chart.lenI J'.v
      have hlt : ¬ (qs.length : Int) < qs.length := by omega
      obtain ⟨f2, P⟩ := J'.played
      simp only [run0, run1, run2, run3, run4, noSlot, ownS, ownK, memN, RO.dst, lk, drop, forget, number, Nat.reduceBEq, cut?, splice?, builds, List.length_cons, List.length_nil, List.drop_succ_cons, List.drop_zero, List.take_succ_cons, List.take_zero, List.cons_append, List.nil_append, List.append_nil, List.drop_nil, List.take_nil, Nat.reduceAdd, Nat.reduceLeDiff, Nat.zero_add, Nat.add_zero, ↓reduceIte, Bool.not_true, Bool.not_false, decide_true, decide_false, eq_self, bne_self_eq_false, List.getElem?_cons_zero, List.getElem?_cons_succ, decide_eq_true_eq, Bool.false_eq_true, Bool.true_eq_false, reduceCtorEq, Nat.le_refl, l1, l2, l3, e1, k1, k2, k3, e2, w.len, gt_iff_lt, hq, List.replicate_zero, fills, le]
      rw [loop_run]
      conv in (codeF _ _ r187L0 _) => unfold r187L0
      simp only [run0, run1, run2, run3, run4, noSlot, ownS, ownK, memN, RO.dst, lk, drop, forget, number, Nat.reduceBEq, cut?, splice?, builds, List.length_cons, List.length_nil, List.drop_succ_cons, List.drop_zero, List.take_succ_cons, List.take_zero, List.cons_append, List.nil_append, List.append_nil, List.drop_nil, List.take_nil, Nat.reduceAdd, Nat.reduceLeDiff, Nat.zero_add, Nat.add_zero, ↓reduceIte, Bool.not_true, Bool.not_false, decide_true, decide_false, eq_self, bne_self_eq_false, List.getElem?_cons_zero, List.getElem?_cons_succ, decide_eq_true_eq, Bool.false_eq_true, Bool.true_eq_false, reduceCtorEq, Nat.le_refl, w.len, hlt, m1, m2, m3]
      exact ⟨_, _, _, _, _, rfl, P⟩
end
end Go.Proofs.Ytlbagejkjkfkjaa.A
/- Plain laws of ranges that lie side by side: a part is put in place of another that covers the same ids. No program here. -/
namespace Go.Proofs.Ytlbagejkjkfkjaa.A
open Go
set_option linter.unusedSimpArgs false
set_option linter.unusedVariables false
/-- Ranges cover all from a to b, one behind the other. -/
def Tile : Int → List Range → Int → Prop
  | a, [], b => a = b + 1
  | a, r :: rs, b => r.lo = a ∧ r.lo ≤ r.hi ∧ (0 ≤ r.group ∧ r.group ≤ 99) ∧ Tile (r.hi + 1) rs b
theorem Tile.le : ∀ {a : Int} {xs : List Range} {b : Int}, Tile a xs b → a ≤ b + 1
  | _, [], _, h => Int.le_of_eq h
  | _, r :: rs, _, ⟨h1, h2, _, h4⟩ => by have := Tile.le h4; omega
theorem Tile.append : ∀ {xs ys : List Range} {a b : Int}, Tile a (xs ++ ys) b ↔ ∃ m, Tile a xs m ∧ Tile (m + 1) ys b
  | [], ys, a, b => ⟨fun h => ⟨a - 1, by show a = a - 1 + 1; omega, by rw [Int.sub_add_cancel]; exact h⟩, fun ⟨m, h1, h2⟩ => by
      have h1 : a = m + 1 := h1
      rw [h1]; exact h2⟩
  | r :: rs, ys, a, b => by
    constructor
    · rintro ⟨h1, h2, h3, h4⟩
      obtain ⟨m, q1, q2⟩ := Tile.append.1 h4
      exact ⟨m, ⟨h1, h2, h3, q1⟩, q2⟩
    · rintro ⟨m, ⟨h1, h2, h3, q1⟩, q2⟩
      exact ⟨h1, h2, h3, Tile.append.2 ⟨m, q1, q2⟩⟩
theorem Tile.drop {xs : List Range} (w : RangesFit xs) : ∀ (n i : Nat), i + n = xs.length → Tile (if i = 0 then 0 else (Range.at_ xs (i - 1)).hi + 1) (xs.drop i) 18446744073709551615
  | 0, i, h => by
    have := w.pos
    rw [List.drop_eq_nil_of_le (by omega), if_neg (by omega)]
    have hN := w.hiN
    rw [show xs.length - 1 = i - 1 by omega] at hN
    show _ = _; omega
  | n + 1, i, h => by
    have hi : i < xs.length := by omega
    rw [List.drop_eq_getElem_cons hi, ← at_get hi]
    have ih := Tile.drop w n (i + 1) (by omega)
    rw [if_neg (by omega), Nat.add_sub_cancel] at ih
    refine ⟨?_, w.le i hi, w.grp i hi, ih⟩
    split
    · rename_i h0; subst h0; exact w.lo0
    · have := w.next (i - 1) (by omega)
      rw [show i - 1 + 1 = i by omega] at this
      exact this
theorem Tile.of_fit {xs : List Range} (w : RangesFit xs) : Tile 0 xs 18446744073709551615 := by
  simpa using Tile.drop w xs.length 0 (by omega)
theorem Tile.at_ : ∀ {xs : List Range} {a b : Int} (i : Nat), Tile a xs b → i < xs.length → (Range.at_ xs i).lo ≤ (Range.at_ xs i).hi ∧ (0 ≤ (Range.at_ xs i).group ∧ (Range.at_ xs i).group ≤ 99) ∧ (Range.at_ xs i).lo = (if i = 0 then a else (Range.at_ xs (i - 1)).hi + 1) ∧ (i + 1 = xs.length → (Range.at_ xs i).hi = b)
  | [], _, _, _, _, hi => absurd hi (Nat.not_lt_zero _)
  | r :: rs, a, b, 0, ⟨h1, h2, h3, h4⟩, _ => ⟨h2, h3, h1, fun hl => by
      have : rs = [] := List.eq_nil_of_length_eq_zero (by rw [List.length_cons] at hl; omega)
      subst this
      have h4 : r.hi + 1 = b + 1 := h4
      show r.hi = b; omega⟩
  | r :: rs, a, b, i + 1, ⟨h1, h2, h3, h4⟩, hi => by
    obtain ⟨q1, q2, q3, q4⟩ := Tile.at_ i h4 (by simpa using hi)
    refine ⟨q1, q2, ?_, fun hl => q4 (by rw [List.length_cons] at hl; omega)⟩
    rw [if_neg (by omega)]
    show (Range.at_ rs i).lo = _
    rw [q3]
    cases i with
    | zero => rfl
    | succ i => rfl
theorem Tile.ok {xs : List Range} (t : Tile 0 xs 18446744073709551615) (h2 : xs.length ≤ 24) : rangesOk xs = true := by
  have h1 : 1 ≤ xs.length := by
    cases xs with
    | nil => have t : (0 : Int) = 18446744073709551615 + 1 := t; omega
    | cons r rs => simp
  simp only [rangesOk, Bool.and_eq_true, inR, decide_eq_true_eq, beq_iff_eq, List.all_eq_true, List.mem_range, Range.fits, Bool.or_eq_true]
  refine ⟨by omega, ?_, ?_, fun i hi => ?_⟩
  · have := (Tile.at_ 0 t (by omega)).2.2.1; simpa using this
  · exact (Tile.at_ (xs.length - 1) t (by omega)).2.2.2 (by omega)
  · obtain ⟨q1, q2, q3, _⟩ := Tile.at_ i t hi
    refine ⟨q1, q2, ?_⟩
    by_cases h0 : i = 0
    · exact .inl h0
    · rw [if_neg h0] at q3; exact .inr q3
/-- The range that covers an id. -/
def ownR (xs : List Range) (id : Int) : Option Range := xs.find? fun r => decide (r.lo ≤ id) && decide (id ≤ r.hi)
theorem own_app (xs ys : List Range) (id : Int) : ownR (xs ++ ys) id = (ownR xs id).or (ownR ys id) := by simp [ownR]
theorem own_cons (r : Range) (xs : List Range) (id : Int) : ownR (r :: xs) id = if r.lo ≤ id ∧ id ≤ r.hi then some r else ownR xs id := by
  simp only [ownR, List.find?_cons]
  by_cases h : r.lo ≤ id ∧ id ≤ r.hi
  · rw [if_pos h]; simp [h.1, h.2]
  · rw [if_neg h]
    have : (decide (r.lo ≤ id) && decide (id ≤ r.hi)) = false := by
      rw [Bool.and_eq_false_iff]; simp; omega
    rw [this]
theorem own_nil (id : Int) : ownR [] id = none := rfl
theorem Tile.out : ∀ {xs : List Range} {a b id : Int}, Tile a xs b → ¬ (a ≤ id ∧ id ≤ b) → ownR xs id = none
  | [], _, _, _, _, _ => rfl
  | r :: rs, a, b, id, ⟨h1, h2, h3, h4⟩, h => by
    have := Tile.le h4
    rw [own_cons, if_neg (by omega), Tile.out h4 (by omega)]
/-- Who owns an id of ranges in three parts. -/
theorem own_mid {P M S : List Range} {a b id : Int} {m n : Int} (hP : Tile a P m) (hM : Tile (m + 1) M n) (hS : Tile (n + 1) S b) :
    ownR (P ++ (M ++ S)) id = if m + 1 ≤ id ∧ id ≤ n then ownR M id else (ownR P id).or (ownR S id) := by
  rw [own_app, own_app]
  by_cases h : m + 1 ≤ id ∧ id ≤ n
  · rw [if_pos h, hP.out (by omega), hS.out (by omega)]
    cases ownR M id <;> rfl
  · rw [if_neg h, hM.out h]; cases ownR P id <;> rfl
theorem own_of {xs : List Range} (hr : rangesOk xs = true) {id : Int} (h0 : 0 ≤ id) (h1 : id ≤ 18446744073709551615) : ownR xs id = some (Range.at_ xs (findHi xs id).toNat) := by
  obtain ⟨i, hi, q1, q2, q3, q4⟩ := (rangesOk_fit hr).has h0 h1
  have hc : xs.findIdx? (fun r => decide (r.lo ≤ id) && decide (id ≤ r.hi)) = some i := by
    unfold findCov findI at q2
    split at q2
    · rename_i j hj
      rw [hj]; congr 1; omega
    · omega
  rw [q1, Int.toNat_natCast]
  unfold ownR
  rw [List.findIdx?_eq_some_iff_getElem] at hc
  obtain ⟨hi', hc1, hc2⟩ := hc
  rw [List.find?_eq_some_iff_getElem]
  refine ⟨by rw [at_get hi]; exact hc1, i, hi, (at_get hi).symm, fun j hj => ?_⟩
  have := hc2 j hj
  simp at this ⊢
  rcases Int.lt_or_le id xs[j].lo with h | h
  · exact .inl h
  · exact .inr (this h)
/-! ### one range put in place of another part -/
theorem take_drop {xs : List Range} {k : Nat} (hk : k < xs.length) : xs = xs.take k ++ ([Range.at_ xs k] ++ xs.drop (k + 1)) := by
  rw [at_get hk]
  conv => lhs; rw [← List.take_append_drop k xs, List.drop_eq_getElem_cons hk]
  rfl
/-- Ranges of which a part was changed for another one over the same ids. -/
structure Swap (xs ys : List Range) (a b : Int) (f g : Int → Option Range) : Prop where
  tile : Tile 0 ys 18446744073709551615
  inn : ∀ id, a ≤ id → id ≤ b → ownR xs id = f id ∧ ownR ys id = g id
  out : ∀ id, ¬ (a ≤ id ∧ id ≤ b) → ownR ys id = ownR xs id
theorem swap_of {P M M' S : List Range} {m n : Int} (hP : Tile 0 P m) (hM : Tile (m + 1) M n) (hS : Tile (n + 1) S 18446744073709551615) (hM' : Tile (m + 1) M' n) : Swap (P ++ (M ++ S)) (P ++ (M' ++ S)) (m + 1) n (ownR M) (ownR M') where
  tile := Tile.append.2 ⟨m, hP, Tile.append.2 ⟨n, hM', hS⟩⟩
  inn := fun id h1 h2 => ⟨by rw [own_mid hP hM hS, if_pos ⟨h1, h2⟩], by rw [own_mid hP hM' hS, if_pos ⟨h1, h2⟩]⟩
  out := fun id h => by rw [own_mid hP hM hS, own_mid hP hM' hS, if_neg h, if_neg h]
theorem cut_swap {xs : List Range} (hr : rangesOk xs = true) {k : Nat} (hk : k < xs.length) {a g : Int} (h1 : (Range.at_ xs k).lo < a) (h2 : a ≤ (Range.at_ xs k).hi) (hg : 0 ≤ g ∧ g ≤ 99) :
    Swap xs (cutRg xs k a g) (Range.at_ xs k).lo (Range.at_ xs k).hi (fun _ => some (Range.at_ xs k)) (fun id => some (if id < a then ⟨(Range.at_ xs k).lo, a - 1, (Range.at_ xs k).group⟩ else ⟨a, (Range.at_ xs k).hi, g⟩)) := by
  have t := Tile.of_fit (rangesOk_fit hr)
  have hx := take_drop hk
  have hy : cutRg xs k a g = xs.take k ++ ([⟨(Range.at_ xs k).lo, a - 1, (Range.at_ xs k).group⟩, ⟨a, (Range.at_ xs k).hi, g⟩] ++ xs.drop (k + 1)) := by simp [cutRg]
  rw [hx] at t
  generalize Range.at_ xs k = X at *
  generalize xs.take k = P at *
  generalize xs.drop (k + 1) = S at *
  obtain ⟨m, hP, t⟩ := Tile.append.1 t
  obtain ⟨n, hM, hS⟩ := Tile.append.1 t
  obtain ⟨q1, q2, q3, q4⟩ := hM
  have q4 : X.hi + 1 = n + 1 := q4
  have hn : n = X.hi := by omega
  subst hn
  have w := swap_of hP (M := [X]) ⟨q1, q2, q3, rfl⟩ hS (M' := [⟨X.lo, a - 1, X.group⟩, ⟨a, X.hi, g⟩]) ⟨q1, by show X.lo ≤ a - 1; omega, q3, by show a = a - 1 + 1; omega, h2, hg, rfl⟩
  rw [hy, hx]
  rw [← q1] at w
  refine ⟨w.tile, fun id i1 i2 => ?_, w.out⟩
  obtain ⟨w1, w2⟩ := w.inn id i1 i2
  rw [own_cons, if_pos ⟨i1, i2⟩] at w1
  refine ⟨w1, ?_⟩
  rw [w2, own_cons, own_cons]
  by_cases hlt : id < a
  · rw [if_pos (by simp only; omega), if_pos hlt]
  · rw [if_neg (by simp only; omega), if_neg hlt, if_pos (by simp only; omega)]
theorem set_swap {xs : List Range} (hr : rangesOk xs = true) {k : Nat} (hk : k < xs.length) {g : Int} (hg : 0 ≤ g ∧ g ≤ 99) :
    Swap xs (xs.set k ⟨(Range.at_ xs k).lo, (Range.at_ xs k).hi, g⟩) (Range.at_ xs k).lo (Range.at_ xs k).hi (fun _ => some (Range.at_ xs k)) (fun _ => some ⟨(Range.at_ xs k).lo, (Range.at_ xs k).hi, g⟩) := by
  have t := Tile.of_fit (rangesOk_fit hr)
  have hx := take_drop hk
  have hy : xs.set k ⟨(Range.at_ xs k).lo, (Range.at_ xs k).hi, g⟩ = xs.take k ++ ([⟨(Range.at_ xs k).lo, (Range.at_ xs k).hi, g⟩] ++ xs.drop (k + 1)) := by
    rw [List.set_eq_take_append_cons_drop, if_pos hk]; rfl
  rw [hx] at t
  generalize Range.at_ xs k = X at *
  rw [hy]
  generalize xs.take k = P at *
  generalize xs.drop (k + 1) = S at *
  obtain ⟨m, hP, t⟩ := Tile.append.1 t
  obtain ⟨n, hM, hS⟩ := Tile.append.1 t
  obtain ⟨q1, q2, q3, q4⟩ := hM
  have q4 : X.hi + 1 = n + 1 := q4
  have hn : n = X.hi := by omega
  subst hn
  have w := swap_of hP (M := [X]) ⟨q1, q2, q3, rfl⟩ hS (M' := [⟨X.lo, X.hi, g⟩]) ⟨q1, q2, hg, rfl⟩
  rw [hx]
  rw [← q1] at w
  refine ⟨w.tile, fun id i1 i2 => ?_, w.out⟩
  obtain ⟨w1, w2⟩ := w.inn id i1 i2
  rw [own_cons, if_pos ⟨i1, i2⟩] at w1
  refine ⟨w1, ?_⟩
  rw [w2, own_cons, if_pos ⟨i1, i2⟩]
theorem join_swap {xs : List Range} (hr : rangesOk xs = true) {k : Nat} (hk : k + 1 < xs.length) :
    Swap xs (joinRg xs k) (Range.at_ xs k).lo (Range.at_ xs (k + 1)).hi (fun id => some (if id ≤ (Range.at_ xs k).hi then Range.at_ xs k else Range.at_ xs (k + 1))) (fun _ => some ⟨(Range.at_ xs k).lo, (Range.at_ xs (k + 1)).hi, (Range.at_ xs k).group⟩) := by
  have t := Tile.of_fit (rangesOk_fit hr)
  have hx : xs = xs.take k ++ ([Range.at_ xs k, Range.at_ xs (k + 1)] ++ xs.drop (k + 2)) := by
    rw [at_get hk, at_get (show k < xs.length by omega)]
    conv => lhs; rw [← List.take_append_drop k xs, List.drop_eq_getElem_cons (show k < xs.length by omega), List.drop_eq_getElem_cons hk]
    rfl
  have hy : joinRg xs k = xs.take k ++ ([⟨(Range.at_ xs k).lo, (Range.at_ xs (k + 1)).hi, (Range.at_ xs k).group⟩] ++ xs.drop (k + 2)) := by
    unfold joinRg
    generalize (⟨(Range.at_ xs k).lo, (Range.at_ xs (k + 1)).hi, (Range.at_ xs k).group⟩ : Range) = Z
    rw [List.eraseIdx_eq_take_drop_succ, List.take_set, List.drop_set_of_lt (by omega), List.set_eq_take_append_cons_drop, if_pos (by simp; omega)]
    simp only [List.take_take, Nat.min_eq_left (Nat.le_succ k), List.append_assoc, List.cons_append, List.nil_append]
    congr 2
    rw [List.drop_eq_nil_of_le (by simp; omega), List.nil_append]
  rw [hx] at t
  generalize Range.at_ xs k = X at *
  generalize Range.at_ xs (k + 1) = Y at *
  rw [hy]
  generalize xs.take k = P at *
  generalize xs.drop (k + 2) = S at *
  obtain ⟨m, hP, t⟩ := Tile.append.1 t
  obtain ⟨n, hM, hS⟩ := Tile.append.1 t
  obtain ⟨q1, q2, q3, q4, q5, q6, q7⟩ := hM
  have q7 : Y.hi + 1 = n + 1 := q7
  have hn : n = Y.hi := by omega
  subst hn
  have w := swap_of hP (M := [X, Y]) ⟨q1, q2, q3, q4, q5, q6, rfl⟩ hS (M' := [⟨X.lo, Y.hi, X.group⟩]) ⟨q1, by show X.lo ≤ Y.hi; omega, q3, rfl⟩
  rw [hx]
  rw [← q1] at w
  refine ⟨w.tile, fun id i1 i2 => ?_, w.out⟩
  obtain ⟨w1, w2⟩ := w.inn id i1 i2
  rw [own_cons, own_cons] at w1
  rw [own_cons, if_pos ⟨i1, i2⟩] at w2
  refine ⟨?_, w2⟩
  rw [w1]
  by_cases hle : id ≤ X.hi
  · rw [if_pos ⟨i1, hle⟩, if_pos hle]
  · rw [if_neg (by omega), if_neg hle, if_pos (by omega)]
end Go.Proofs.Ytlbagejkjkfkjaa.A
/- What a command does with a right chart: it stays right, and only a finish changes who owns an id. No program here. -/
namespace Go.Proofs.Ytlbagejkjkfkjaa.A
open Go
set_option linter.unusedSimpArgs false
set_option linter.unusedVariables false
theorem cutRg_len1 (xs : List Range) {k : Nat} (hk : k < xs.length) (a g : Int) : (cutRg xs k a g).length = xs.length + 1 := by
  simp only [cutRg, List.length_append, List.length_take, List.length_drop, List.length_cons, List.length_nil]; omega
def U64 (id : Int) : Prop := 0 ≤ id ∧ id ≤ 18446744073709551615
theorem Chart.own {xs : List Range} {c : Chart} (h : c.ranges = xs) (hr : rangesOk xs = true) {id : Int} (hi : U64 id) : ownR xs id = some (c.of_ id) := by
  subst h; exact own_of hr hi.1 hi.2
structure Moves (c d : Chart) (x : Int) (q : MapCmd) : Prop where
  good : d.good = true
  same : x ≠ 0 → d = c
  up : x = 0 → d.epoch = c.epoch + 1
  grp : ∀ id, U64 id → (d.of_ id).group = (c.of_ id).group ∨ (q.kind = 3 ∧ (d.of_ id).group = c.to)
theorem Moves.no {c : Chart} (g : c.good = true) {x : Int} (hx : x ≠ 0) (q : MapCmd) : Moves c c x q := ⟨g, fun _ => rfl, fun h => absurd h hx, fun _ _ => .inl rfl⟩
/-- The fields of a right chart. -/
theorem good_parts {c : Chart} (g : c.good = true) : (1 ≤ c.epoch ∧ c.epoch ≤ 1000000) ∧ rangesOk c.ranges = true ∧ (c.moving = true → (c.of_ c.lo).lo = c.lo ∧ (0 ≤ c.to ∧ c.to ≤ 99) ∧ c.to ≠ (c.of_ c.lo).group) ∧ (c.moving = false → c.lo = 0 ∧ c.to = 0) := by
  simp only [Chart.good, Bool.and_eq_true, inR, decide_eq_true_eq] at g
  obtain ⟨g1, g2, g3⟩ := g
  refine ⟨g1, g2, fun h => ?_, fun h => ?_⟩
  · rw [h, cond_true] at g3
    simpa using g3
  · rw [h, cond_false] at g3
    simpa using g3
theorem good_of {c : Chart} (h1 : 1 ≤ c.epoch ∧ c.epoch ≤ 1000000) (h2 : rangesOk c.ranges = true) (h3 : c.moving = true → (c.of_ c.lo).lo = c.lo ∧ (0 ≤ c.to ∧ c.to ≤ 99) ∧ c.to ≠ (c.of_ c.lo).group) (h4 : c.moving = false → c.lo = 0 ∧ c.to = 0) : c.good = true := by
  simp only [Chart.good, Bool.and_eq_true, inR, decide_eq_true_eq]
  refine ⟨h1, h2, ?_⟩
  cases hm : c.moving with
  | true => simpa using h3 hm
  | false => simpa using h4 hm
section
variable {c : Chart} {q : MapCmd}
/-- A split or a merge away from the range that moves. -/
theorem moves_swap (g : c.good = true) (ok : c.Ok) (he : ¬ c.epoch = 1000000) {ys : List Range} {a b : Int} {f e : Int → Option Range} (hl : ys.length ≤ 24) (w : Swap c.ranges ys a b f e)
    (hg : ∀ id, a ≤ id → id ≤ b → ∀ r s, f id = some r → e id = some s → s.group = r.group) (hm : c.moving = true → ¬ (a ≤ c.lo ∧ c.lo ≤ b)) : Moves c { c with epoch := c.epoch + 1, ranges := ys } 0 q := by
  obtain ⟨p1, p2, p3, p4⟩ := good_parts g
  have hy := w.tile.ok hl
  have ho : ∀ id, U64 id → ¬ (a ≤ id ∧ id ≤ b) → Chart.of_ { c with epoch := c.epoch + 1, ranges := ys } id = c.of_ id := fun id hi hn => by
    have h1 := Chart.own (c := { c with epoch := c.epoch + 1, ranges := ys }) rfl hy hi
    have h2 := Chart.own (c := c) rfl p2 hi
    rw [w.out id hn, h2] at h1
    injection h1 with h1; exact h1.symm
  refine ⟨good_of ⟨by show 1 ≤ c.epoch + 1; omega, by show c.epoch + 1 ≤ 1000000; omega⟩ hy (fun h => ?_) p4, fun h => absurd rfl h, fun _ => rfl, fun id hi => .inl ?_⟩
  · have h : c.moving = true := h
    have := ho c.lo ok.lo (hm h)
    show (Chart.of_ { c with epoch := c.epoch + 1, ranges := ys } c.lo).lo = c.lo ∧ (0 ≤ c.to ∧ c.to ≤ 99) ∧ c.to ≠ (Chart.of_ { c with epoch := c.epoch + 1, ranges := ys } c.lo).group
    rw [this]; exact p3 h
  · by_cases hn : a ≤ id ∧ id ≤ b
    · have h1 := Chart.own (c := { c with epoch := c.epoch + 1, ranges := ys }) rfl hy hi
      have h2 := Chart.own (c := c) rfl p2 hi
      obtain ⟨w1, w2⟩ := w.inn id hn.1 hn.2
      exact hg id hn.1 hn.2 _ _ (w1.symm.trans h2) (w2.symm.trans h1)
    · rw [ho id hi hn]
theorem mv_out (g : c.good = true) (ok : c.Ok) {k : Nat} (hk : k < c.ranges.length) (hv : c.mv k = false) (hm : c.moving = true) : ¬ ((Range.at_ c.ranges k).lo ≤ c.lo ∧ c.lo ≤ (Range.at_ c.ranges k).hi) := by
  obtain ⟨j, hj, _, _, _, p4, p5⟩ := Chart.mv_place g hm ok.lo
  intro h
  have hfit := rangesOk_fit (Chart.good_ranges g)
  have hkj : k ≠ j := fun he => by
    have := (p5 k hk).2 he
    rw [hv] at this; cases this
  have := hfit.le j hj
  rcases Nat.lt_or_gt_of_ne hkj with h1 | h1
  · have := hfit.apart h1 hj; omega
  · have := hfit.apart h1 hk; omega
theorem act_moves (g : c.good = true) (ok : c.Ok) (okq : q.Ok) (hk : inR q.kind 0 4 = true) (he : ¬ c.epoch = 1000000) : Moves c (c.act q).1 (c.act q).2 q := by
  obtain ⟨p1, p2, p3, p4⟩ := good_parts g
  have hfit := rangesOk_fit p2
  obtain ⟨k, hkl, q1, q2, q3, q4, q5⟩ := Chart.has (c := c) p2 okq.at_.1 okq.at_.2
  have hpl : c.pl q.at_ = k := by simp [Chart.pl, q1]
  have hgk := hfit.grp k hkl
  have fin : ∀ p : List Range × Bool, (p.2 = true → Moves c { c with epoch := c.epoch + 1, ranges := p.1 } 0 q) → Moves c (c.fin p).1 (c.fin p).2 q := fun p h => by
    unfold Chart.fin
    cases hp : p.2 with
    | true => exact h hp
    | false => exact Moves.no g (by simp) q
  unfold Chart.act
  rw [hpl]
  cases k0 : (q.kind == 0) with
  | true =>
    simp only [cond_true]
    cases hv : c.mv k with
    | true => exact Moves.no g (by simp) q
    | false =>
      simp only [cond_false]
      refine fin _ fun hs => ?_
      unfold splitRg at hs ⊢
      cases hc : (rangesOk c.ranges && (inR (Range.at_ c.ranges k).group 0 99 && !((c.ranges.length : Int) == 24))) with
      | false => rw [hc] at hs; cases hs
      | true =>
        rw [hc] at hs
        simp only [cond_true, q1, Int.toNat_natCast] at hs ⊢
        cases hlo : ((Range.at_ c.ranges k).lo == q.at_) with
        | true => rw [hlo] at hs; cases hs
        | false =>
          simp only [cond_false]
          simp only [beq_eq_false_iff_ne] at hlo
          simp only [Bool.and_eq_true, Bool.not_eq_true', beq_eq_false_iff_ne] at hc
          have w := cut_swap p2 hkl (a := q.at_) (g := (Range.at_ c.ranges k).group) (by omega) q5 hgk
          refine moves_swap g ok he ?_ w (fun id _ _ r s hr hs => ?_) (mv_out g ok hkl hv)
          · have := cutRg_len1 c.ranges hkl q.at_ (Range.at_ c.ranges k).group
            have := hfit.few
            omega
          · injection hr with hr; injection hs with hs
            rw [← hr, ← hs]; split <;> rfl
  | false =>
  simp only [cond_false]
  cases k1 : (q.kind == 1) with
  | true =>
    simp only [cond_true]
    cases h1 : (((Range.at_ c.ranges k).lo != q.at_) || (q.at_ == 0)) with
    | true => exact Moves.no g (by simp) q
    | false =>
      simp only [cond_false]
      simp only [Bool.or_eq_false_iff, bne_eq_false_iff_eq, beq_eq_false_iff_ne] at h1
      cases hv : (c.mv k || c.mv (k - 1)) with
      | true => exact Moves.no g (by simp) q
      | false =>
        simp only [cond_false]
        simp only [Bool.or_eq_false_iff] at hv
        refine fin _ fun hs => ?_
        have hk1 : 1 ≤ k := by
          rcases Nat.eq_zero_or_pos k with h | h
          · subst h; have := hfit.lo0; omega
          · exact h
        have hkc : ((k : Nat) : Int) - 1 = ((k - 1 : Nat) : Int) := by omega
        rw [hkc] at hs ⊢
        unfold mergeRg at hs ⊢
        cases hc : (rangesOk c.ranges && (decide (0 ≤ ((k - 1 : Nat) : Int)) && (decide (((k - 1 : Nat) : Int) < (c.ranges.length : Int) - 1) && ((Range.at_ c.ranges ((k - 1 : Nat) : Int).toNat).group == (Range.at_ c.ranges (((k - 1 : Nat) : Int).toNat + 1)).group)))) with
        | false => rw [hc] at hs; cases hs
        | true =>
          simp only [cond_true, Int.toNat_natCast]
          simp only [Bool.and_eq_true, decide_eq_true_eq, beq_iff_eq, Int.toNat_natCast] at hc
          obtain ⟨_, _, _, hgg⟩ := hc
          have w := join_swap p2 (k := k - 1) (by omega)
          refine moves_swap g ok he ?_ w (fun id _ _ r s hr hs => ?_) (fun hm => ?_)
          · have := hfit.few
            refine Nat.le_trans (List.length_eraseIdx_le _ _) ?_
            rw [List.length_set]; exact this
          · injection hr with hr; injection hs with hs
            rw [← hr, ← hs]; split
            · rfl
            · exact hgg
          · have o1 := mv_out g ok hkl hv.1 hm
            have o2 := mv_out g ok (k := k - 1) (by omega) hv.2 hm
            have hn := hfit.next (k - 1) (by omega)
            rw [show k - 1 + 1 = k by omega] at hn ⊢
            omega
  | false =>
  simp only [cond_false]
  cases k2 : (q.kind == 2) with
  | true =>
    simp only [cond_true]
    cases hm : c.moving with
    | true => exact Moves.no g (by simp) q
    | false =>
      simp only [cond_false]
      cases hc : (inR q.group 0 99 && (q.group != (Range.at_ c.ranges k).group)) with
      | false => exact Moves.no g (by simp) q
      | true =>
        simp only [cond_true]
        simp only [Bool.and_eq_true, inR, decide_eq_true_eq, bne_iff_ne] at hc
        have hle := hfit.le k hkl
        have hou : U64 (Range.at_ c.ranges k).lo := (Range.at_ok ok.ranges k).lo
        have hself : c.of_ (Range.at_ c.ranges k).lo = Range.at_ c.ranges k := by
          obtain ⟨j, hj, _, _, r3, r4, r5⟩ := Chart.has (c := c) p2 hou.1 hou.2
          rw [r3]
          have : j = k := by
            rcases Nat.lt_trichotomy j k with h | h | h
            · have := hfit.apart h hkl; omega
            · exact h
            · have := hfit.apart h hj; omega
          rw [this]
        have hof : ∀ id, Chart.of_ ⟨c.epoch + 1, c.ranges, true, (Range.at_ c.ranges k).lo, q.group⟩ id = c.of_ id := fun _ => rfl
        refine ⟨good_of ⟨by show 1 ≤ c.epoch + 1; omega, by show c.epoch + 1 ≤ 1000000; omega⟩ p2 (fun _ => ?_) (fun h => by cases h), fun h => absurd rfl h, fun _ => rfl, fun id _ => .inl rfl⟩
        rw [hof]
        show (c.of_ (Range.at_ c.ranges k).lo).lo = (Range.at_ c.ranges k).lo ∧ (0 ≤ q.group ∧ q.group ≤ 99) ∧ q.group ≠ (c.of_ (Range.at_ c.ranges k).lo).group
        rw [hself]
        exact ⟨rfl, hc.1, hc.2⟩
  | false =>
  simp only [cond_false]
  cases hm : c.moving with
  | false => exact Moves.no g (by simp) q
  | true =>
    simp only [cond_true]
    cases k3 : (q.kind == 3) with
    | false =>
      exact ⟨good_of ⟨by show 1 ≤ c.epoch + 1; omega, by show c.epoch + 1 ≤ 1000000; omega⟩ p2 (fun h => by cases h) (fun _ => ⟨rfl, rfl⟩), fun h => absurd rfl h, fun _ => rfl, fun id _ => .inl rfl⟩
    | true =>
      obtain ⟨j, hj, _, r2, _, r4, _⟩ := Chart.mv_place g hm ok.lo
      rw [r2]
      have w := set_swap p2 hj (g := c.to) (p3 hm).2.1
      have hy := w.tile.ok (by rw [List.length_set]; exact hfit.few)
      refine ⟨good_of ⟨by show 1 ≤ c.epoch + 1; omega, by show c.epoch + 1 ≤ 1000000; omega⟩ hy (fun h => by cases h) (fun _ => ⟨rfl, rfl⟩), fun h => absurd rfl h, fun _ => rfl, fun id hi => ?_⟩
      have h1 := Chart.own (c := ⟨c.epoch + 1, c.ranges.set j ⟨(Range.at_ c.ranges j).lo, (Range.at_ c.ranges j).hi, c.to⟩, false, 0, 0⟩) rfl hy hi
      have h2 := Chart.own (c := c) rfl p2 hi
      by_cases hn : (Range.at_ c.ranges j).lo ≤ id ∧ id ≤ (Range.at_ c.ranges j).hi
      · obtain ⟨_, w2⟩ := w.inn id hn.1 hn.2
        rw [w2] at h1
        injection h1 with h1
        refine .inr ⟨by simpa using k3, ?_⟩
        simp only [cond_true]
        rw [← h1]
      · rw [w.out id hn, h2] at h1
        injection h1 with h1
        refine .inl ?_
        simp only [cond_true]
        rw [← h1]
theorem doMap_moves (g : c.good = true) (ok : c.Ok) (okq : q.Ok) : Moves c (doMap c q).1 (doMap c q).2 q := by
  unfold doMap
  cases hc : (c.good && (inR q.kind 0 4 && !(c.epoch == 1000000))) with
  | false => exact Moves.no g (by simp) q
  | true =>
    simp only [Bool.and_eq_true, Bool.not_eq_true', beq_eq_false_iff_ne] at hc
    exact act_moves g ok okq hc.2.1 hc.2.2
end
end Go.Proofs.Ytlbagejkjkfkjaa.A
/- A drawn chart and commands for it. -/
namespace Go.Proofs.Ytlbagejkjkfkjaa.A
open Go
set_option linter.unusedSimpArgs false
set_option linter.unusedVariables false
section
variable {F : Nat → Option RF} {Z : CallF} {h0 h : Heap} {k : Nat} {x y : Cell} {code : List Int} {rows : List (List Cell)}
theorem l11DrawAt_c (hS : Has F tS01d) (hS11 : Has F tS11) (c : Cur h k x code) : ∃ r h', call F Z 271 [.c (.ptr k 0 0)] h = some (.c (.int .u64 r), h') ∧ (0 ≤ r ∧ r ≤ 18446744073709551615) ∧ Dr k h h' ∧ Cur h' k x code := by
  have o := On.push h [[.int .u64 0], [.int .u64 1], [.int .u64 2], [.int .u64 6], [.int .u64 10], [.int .u64 101], [.int .u64 9223372036854775808], [.int .u64 18446744073709551615], [.int .u64 18446744073709551614], [.int .u64 50]]
  obtain ⟨r1, h1, e1, r0, rn, _, m1, c1⟩ := l01Below_c (Z := Z) hS (c.on o) 10
  have hlt := rn (by omega)
  obtain ⟨j, rfl⟩ : ∃ j : Nat, r1 = (j : Int) := ⟨r1.toNat, by omega⟩
  have hj : j < 10 := by omega
  have hg : h1.get h.next = some [[.int .u64 0], [.int .u64 1], [.int .u64 2], [.int .u64 6], [.int .u64 10], [.int .u64 101], [.int .u64 9223372036854775808], [.int .u64 18446744073709551615], [.int .u64 18446744073709551614], [.int .u64 50]] := by
    rw [m1.get _ (by have := c.fl.2; simp; omega)]; simp [Heap.push]
  have hid : idxR 13 (some (.sl 13 h.next 0 10)) (some (j : Int)) = some (.ptr h.next j 0) := by rw [idxR_s, if_pos (by omega)]; simp
  obtain ⟨v, hv, hvr⟩ : ∃ v : Int, loadP h1 h.next j 0 1 = some [.int .u64 v] ∧ (0 ≤ v ∧ v ≤ 18446744073709551615) := by
    match j, hj with
    | 0, _ => exact ⟨0, by simp [loadP, rowOf, hg, cut?], by omega⟩
    | 1, _ => exact ⟨1, by simp [loadP, rowOf, hg, cut?], by omega⟩
    | 2, _ => exact ⟨2, by simp [loadP, rowOf, hg, cut?], by omega⟩
    | 3, _ => exact ⟨6, by simp [loadP, rowOf, hg, cut?], by omega⟩
    | 4, _ => exact ⟨10, by simp [loadP, rowOf, hg, cut?], by omega⟩
    | 5, _ => exact ⟨101, by simp [loadP, rowOf, hg, cut?], by omega⟩
    | 6, _ => exact ⟨9223372036854775808, by simp [loadP, rowOf, hg, cut?], by omega⟩
    | 7, _ => exact ⟨18446744073709551615, by simp [loadP, rowOf, hg, cut?], by omega⟩
    | 8, _ => exact ⟨18446744073709551614, by simp [loadP, rowOf, hg, cut?], by omega⟩
    | 9, _ => exact ⟨50, by simp [loadP, rowOf, hg, cut?], by omega⟩
  rw [call_run F Z (hS11.lk (g := 271) rfl) _ _ rfl]
  simp only [run0, run1, run2, run3, run4, noSlot, ownS, ownK, memN, RO.dst, lk, drop, forget, number, Nat.reduceBEq, cut?, splice?, builds, List.length_cons, List.length_nil, List.drop_succ_cons, List.drop_zero, List.take_succ_cons, List.take_zero, List.cons_append, List.nil_append, List.append_nil, List.drop_nil, List.take_nil, Nat.reduceAdd, Nat.reduceLeDiff, Nat.zero_add, Nat.add_zero, ↓reduceIte, Bool.not_true, Bool.not_false, decide_true, decide_false, eq_self, bne_self_eq_false, List.getElem?_cons_zero, List.getElem?_cons_succ, decide_eq_true_eq, Bool.false_eq_true, Bool.true_eq_false, reduceCtorEq, Nat.le_refl, List.replicate_succ, List.replicate_zero, fills, and_self, List.set_cons_zero, List.set_cons_succ, Nat.reduceLT, Nat.zero_lt_succ, Nat.zero_lt_one, e1, hid, hv]
  exact ⟨_, _, rfl, hvr, (o.dr k).trans m1.dr, c1⟩
theorem l12DrawCmd_c (hS : Has F tS01d) (hS11 : Has F tS11) (hS12 : Has F tS12) (c : Cur h k x code) : ∃ (q : MapCmd) (h' : Heap), call F Z 258 [.c (.ptr k 0 0)] h = some (.agg q.enc, h') ∧ q.Ok ∧ Dr k h h' ∧ Cur h' k x code := by
  obtain ⟨r1, h1, e1, r10, r1n, _, m1, c1⟩ := l01Below_c (Z := Z) hS c 7
  have r1l := r1n (by omega)
  have hw1 : IntKind.i64.wrap (r1 - 1) = r1 - 1 := wrapI _ (by omega) (by omega)
  obtain ⟨r2, h2, e2, hr2, d2, c2⟩ := pick_lit (Z := Z) hS c1 [0, 0, 0, 1, 2, 2, 3, 4, r1 - 1] (by simp) (by simp)
  obtain ⟨r3, h3, e3, hr3, d3, c3⟩ := l11DrawAt_c (Z := Z) hS hS11 c2
  obtain ⟨r4, h4, e4, hr4, d4, c4⟩ := pick_lit (Z := Z) hS c3 [-1, 99, 100] (by simp) (by simp)
  obtain ⟨r5, h5, e5, hr5, d5, c5⟩ := pick_lit (Z := Z) hS c4 [0, 1, 2, 3, 0, 1, r4] (by simp) (by simp)
  simp only [List.map_cons, List.map_nil, int_enc, List.length_cons, List.length_nil, Nat.zero_add, Nat.reduceAdd] at e2 e4 e5
  rw [call_run F Z (hS12.lk (g := 258) rfl) _ _ rfl]
  simp only [run0, run1, run2, run3, run4, noSlot, ownS, ownK, memN, RO.dst, lk, drop, forget, number, Nat.reduceBEq, cut?, splice?, builds, List.length_cons, List.length_nil, List.drop_succ_cons, List.drop_zero, List.take_succ_cons, List.take_zero, List.cons_append, List.nil_append, List.append_nil, List.drop_nil, List.take_nil, Nat.reduceAdd, Nat.reduceLeDiff, Nat.zero_add, Nat.add_zero, ↓reduceIte, Bool.not_true, Bool.not_false, decide_true, decide_false, eq_self, bne_self_eq_false, List.getElem?_cons_zero, List.getElem?_cons_succ, decide_eq_true_eq, Bool.false_eq_true, Bool.true_eq_false, reduceCtorEq, Nat.le_refl, List.replicate_succ, List.replicate_zero, fills, and_self, List.set_cons_zero, List.set_cons_succ, Nat.reduceLT, Nat.zero_lt_succ, Nat.zero_lt_one, e1, hw1, e2, e3, e4, e5]
  refine ⟨⟨r2, r3, r5⟩, _, rfl, ⟨?_, hr3, ?_⟩, (((m1.dr.trans d2).trans d3).trans d4).trans d5, c5⟩
  · simp only [List.mem_cons, List.not_mem_nil, or_false] at hr2
    show -9223372036854775808 ≤ r2 ∧ r2 ≤ 9223372036854775807
    omega
  · simp only [List.mem_cons, List.not_mem_nil, or_false] at hr4 hr5
    show -9223372036854775808 ≤ r5 ∧ r5 ≤ 9223372036854775807
    omega
theorem drawCmds_turn (hS : Has F tS01d) (hS11 : Has F tS11) (hS12 : Has F tS12) (hf : h0.floor ≤ h0.next) (w : Draw 14 h0 h k x code y rows) (hl : rows.length ≤ 1000) (i : Int) (hi : 0 < i ∧ i ≤ 1000) :
    ∃ (q : MapCmd) (y' : Cell) (h' : Heap), q.Ok ∧ Draw 14 h0 h' k x code y' (rows ++ [q.enc]) ∧ loop F Z [0, 5, 6] r226L0 ⟨[(0, .c (.ptr k 0 0)), (5, .c y), (6, .c (.int .i64 i))], [], [], h⟩ = loop F Z [0, 5, 6] r226L0 ⟨[(0, .c (.ptr k 0 0)), (5, .c y'), (6, .c (.int .i64 (i - 1)))], [], [], h'⟩ := by
  have hws : IntKind.i64.wrap (i - 1) = i - 1 := wrapI _ (by omega) (by omega)
  obtain ⟨q, h1, e1, okq, d1, c1⟩ := l12DrawCmd_c (Z := Z) hS hS11 hS12 w.cux.cur
  have w1 := w.dr d1 c1
  have eo := w1.one_eq hf (bytes := 24) (by omega) q.enc
  have wo := w1.one hf (by omega) q.enc
  have hpos : i > 0 := hi.1
  refine ⟨q, _, _, okq, wo, ?_⟩
  rw [loop_run]
  conv in (codeF _ _ r226L0 _) => unfold r226L0
  simp only [run0, run1, run2, run3, run4, noSlot, ownS, ownK, memN, RO.dst, lk, drop, forget, number, Nat.reduceBEq, cut?, splice?, builds, List.length_cons, List.length_nil, List.drop_succ_cons, List.drop_zero, List.take_succ_cons, List.take_zero, List.cons_append, List.nil_append, List.append_nil, List.drop_nil, List.take_nil, Nat.reduceAdd, Nat.reduceLeDiff, Nat.zero_add, Nat.add_zero, ↓reduceIte, Bool.not_true, Bool.not_false, decide_true, decide_false, eq_self, bne_self_eq_false, List.getElem?_cons_zero, List.getElem?_cons_succ, decide_eq_true_eq, Bool.false_eq_true, Bool.true_eq_false, reduceCtorEq, Nat.le_refl, hpos, e1, List.replicate_succ, List.replicate_zero, fills, and_self, List.set_cons_zero, List.set_cons_succ, Nat.reduceLT, Nat.zero_lt_succ, Nat.zero_lt_one, MapCmd.len, eo, hws]
theorem l12DrawCmds_c (hS : Has F tS01d) (hS11 : Has F tS11) (hS12 : Has F tS12) (hf : h0.floor ≤ h0.next) (w : Cux h0 h k x code) :
    ∃ (y : Cell) (h' : Heap) (qs : List MapCmd), call F Z 226 [.c (.ptr k 0 0), .c x] h = some (.c y, h') ∧ Draw 14 h0 h' k x code y (qs.map MapCmd.enc) ∧ qs.length ≤ 100 ∧ ∀ q, q ∈ qs → q.Ok := by
  have wp := w.go (On.push h [])
  obtain ⟨r1, e1, r1a, r1b⟩ := l01Size_c (Z := Z) hS wp.cur.vw 18 (by omega)
  have hw1 : IntKind.i64.wrap (2 + r1) = 2 + r1 := wrapI _ (by omega) (by omega)
  obtain ⟨n, h2, e2, n0, nn, _, m2, c2⟩ := l01Below_c (Z := Z) hS wp.cur (2 + r1)
  have hn := nn (by omega)
  obtain ⟨m, rfl⟩ : ∃ m : Nat, n = (m : Int) := ⟨n.toNat, by omega⟩
  rw [call_run F Z (hS12.lk (g := 226) rfl) _ _ rfl]
  simp only [run0, run1, run2, run3, run4, noSlot, ownS, ownK, memN, RO.dst, lk, drop, forget, number, Nat.reduceBEq, cut?, splice?, builds, List.length_cons, List.length_nil, List.drop_succ_cons, List.drop_zero, List.take_succ_cons, List.take_zero, List.cons_append, List.nil_append, List.append_nil, List.drop_nil, List.take_nil, Nat.reduceAdd, Nat.reduceLeDiff, Nat.zero_add, Nat.add_zero, ↓reduceIte, Bool.not_true, Bool.not_false, decide_true, decide_false, eq_self, bne_self_eq_false, List.getElem?_cons_zero, List.getElem?_cons_succ, decide_eq_true_eq, Bool.false_eq_true, Bool.true_eq_false, reduceCtorEq, Nat.le_refl, List.replicate_succ, List.replicate_zero, fills, and_self, List.set_cons_zero, List.set_cons_succ, Nat.reduceLT, Nat.zero_lt_succ, Nat.zero_lt_one, e1, hw1, e2]
  have key := loop_goes (F := F) (Z := Z) (live := [0, 5, 6]) (b := r226L0) m (fun i s => ∃ (y : Cell) (g : Heap) (es : List MapCmd), s = ⟨[(0, .c (.ptr k 0 0)), (5, .c y), (6, .c (.int .i64 ((m : Int) - (i : Nat))))], [], [], g⟩ ∧ Draw 14 h0 g k x code y (es.map MapCmd.enc) ∧ es.length = i ∧ ∀ q, q ∈ es → q.Ok) (fun i s hi ⟨y, g, es, hs, wd, hle, hok⟩ => by
    subst hs
    obtain ⟨e, y', g', oke, wd', eq⟩ := drawCmds_turn (F := F) (Z := Z) hS hS11 hS12 hf wd (by simp; omega) ((m : Int) - (i : Nat)) (by omega)
    refine ⟨_, ⟨y', g', es ++ [e], rfl, by simpa using wd', by simp [hle], fun q hq => ?_⟩, ?_⟩
    · rcases List.mem_append.1 hq with hq | hq
      · exact hok q hq
      · simp at hq; subst hq; exact oke
    · rw [eq, show (m : Int) - (i : Nat) - 1 = (m : Int) - ((i + 1 : Nat) : Int) by omega]) (s := ⟨[(0, .c (.ptr k 0 0)), (5, .c (.sl 14 h.next 0 0)), (6, .c (.int .i64 ((m : Int) - ((0 : Nat) : Int))))], [], [], h2⟩) ⟨_, _, [], rfl, by simpa using (Draw.start w).dr m2.dr c2, rfl, fun _ h => (nomatch h)⟩
  obtain ⟨s', ⟨y, g, es, rfl, wd, hle, hok⟩, e⟩ := key
  rw [show (m : Int) - ((0 : Nat) : Int) = (m : Int) by omega] at e
  rw [e, loop_run]
  conv in (codeF _ _ r226L0 _) => unfold r226L0
  simp only [run0, run1, run2, run3, run4, noSlot, ownS, ownK, memN, RO.dst, lk, drop, forget, number, Nat.reduceBEq, cut?, splice?, builds, List.length_cons, List.length_nil, List.drop_succ_cons, List.drop_zero, List.take_succ_cons, List.take_zero, List.cons_append, List.nil_append, List.append_nil, List.drop_nil, List.take_nil, Nat.reduceAdd, Nat.reduceLeDiff, Nat.zero_add, Nat.add_zero, ↓reduceIte, Bool.not_true, Bool.not_false, decide_true, decide_false, eq_self, bne_self_eq_false, List.getElem?_cons_zero, List.getElem?_cons_succ, decide_eq_true_eq, Bool.false_eq_true, Bool.true_eq_false, reduceCtorEq, Nat.le_refl, show ¬ ((m : Int) - (m : Int) > 0) by omega]
  exact ⟨_, _, es, rfl, wd, by omega, hok⟩
/-- A chart of one range. -/
def Chart.one (g : Int) : Chart := ⟨1, [⟨0, 18446744073709551615, g⟩], false, 0, 0⟩
theorem Chart.one_good {g : Int} (hg : 0 ≤ g ∧ g ≤ 99) : (Chart.one g).good = true := by
  have t : Tile 0 [⟨0, 18446744073709551615, g⟩] 18446744073709551615 := ⟨rfl, by show (0 : Int) ≤ 18446744073709551615; omega, hg, rfl⟩
  exact good_of (by simp [Chart.one]) (t.ok (by simp)) (fun h => by cases h) (fun _ => ⟨rfl, rfl⟩)
theorem Chart.one_ok {g : Int} (hg : 0 ≤ g ∧ g ≤ 99) : (Chart.one g).Ok := ⟨by simp [Chart.one], fun a ha => by
  simp only [Chart.one, List.mem_cons, List.not_mem_nil, or_false] at ha
  subst ha
  exact ⟨by simp, by simp, by show -9223372036854775808 ≤ g ∧ g ≤ 9223372036854775807; omega⟩, by simp [Chart.one], by simp [Chart.one]⟩
theorem NewChart_c (hS : Has F tS01d) (hS12 : Has F tS12) {g : Int} (hg : 0 ≤ g ∧ g ≤ 99) : ∃ cs h', call F Z 257 [.c (.int .i64 g)] h = some (.agg cs, h') ∧ On h h' ∧ Chart.RI h' cs (Chart.one g) [h.next] := by
  have e1 := l01In_run (Z := Z) hS g 0 99 h
  have hi : inR g 0 99 = true := by simp [inR]; omega
  rw [hi] at e1
  rw [call_run F Z (hS12.lk (g := 257) rfl) _ _ rfl]
  simp only [run0, run1, run2, run3, run4, noSlot, ownS, ownK, memN, RO.dst, lk, drop, forget, number, Nat.reduceBEq, cut?, splice?, builds, List.length_cons, List.length_nil, List.drop_succ_cons, List.drop_zero, List.take_succ_cons, List.take_zero, List.cons_append, List.nil_append, List.append_nil, List.drop_nil, List.take_nil, Nat.reduceAdd, Nat.reduceLeDiff, Nat.zero_add, Nat.add_zero, ↓reduceIte, Bool.not_true, Bool.not_false, decide_true, decide_false, eq_self, bne_self_eq_false, List.getElem?_cons_zero, List.getElem?_cons_succ, decide_eq_true_eq, Bool.false_eq_true, Bool.true_eq_false, reduceCtorEq, Nat.le_refl, e1, List.replicate_succ, List.replicate_zero, fills, and_self, List.set_cons_zero, List.set_cons_succ, Nat.reduceLT, Nat.zero_lt_succ, Nat.zero_lt_one]
  refine ⟨_, _, rfl, On.push _ _, _, _, rfl, rfl, ?_⟩
  exact SlR.ofFlat (xs := ([⟨0, 18446744073709551615, g⟩] : List Range)) (by simp [maxLen]) (push_get _ _) (by rw [push_next]; omega)
theorem playMap_good : ∀ (qs : List MapCmd) {a : Chart × List Int}, a.1.good = true → a.1.Ok → (∀ q, q ∈ qs → q.Ok) → (qs.foldl mapStep a).1.good = true ∧ (qs.foldl mapStep a).1.Ok
  | [], _, h1, h2, _ => ⟨h1, h2⟩
  | q :: r, a, h1, h2, h3 => playMap_good r (a := mapStep a q) (doMap_moves h1 h2 (h3 q (by simp))).good (doMap_ok h2 (h3 q (by simp))) fun q' hq => h3 q' (by simp [hq])
theorem l12DrawRight_c (hS : Has F tS01d) (hS11 : Has F tS11) (hS12 : Has F tS12) (w : Cur h k x code) :
    ∃ (c : Chart) (cs : List Cell) (h' : Heap) (fp : List Nat), call F Z 225 [.c (.ptr k 0 0), .c x] h = some (.agg cs, h') ∧ Dr k h h' ∧ Cur h' k x code ∧ Chart.RI h' cs c fp ∧ Fre h fp ∧ c.good = true ∧ c.Ok ∧ c.Small := by
  obtain ⟨n, h1, e1, n0, nn, _, m1, c1⟩ := l01Below_c (Z := Z) hS w 3
  have hn := nn (by omega)
  have hg : 0 ≤ n ∧ n ≤ 99 := by omega
  obtain ⟨cs1, h2, e2, o2, v2⟩ := NewChart_c (Z := Z) (h := h1) hS hS12 hg
  have c2 := c1.on o2
  obtain ⟨y, h3, qs, e3, w3, hql, okq⟩ := l12DrawCmds_c (Z := Z) hS hS11 hS12 c2.le (Cux.self c2)
  have hk2 : k ∉ [h1.next] := fun hm => by simp at hm; have := c1.fl.2; omega
  have v3 := Chart.okI.dr v2 w3.cux.dr hk2
  obtain ⟨fy, q1, q2, _⟩ := w3.sep
  obtain ⟨cs4, z, h4, f1, f2, e4, o4, v4, r4, _⟩ := sPlayMap_c (Z := Z) hS hS11 hS12 w3.cux.le v3 (SlR.ofRaw q1) (Chart.one_ok hg) (by simp [Chart.Small, Chart.one]) okq
  obtain ⟨k1, k2, k3⟩ := Chart.lenI v4
  have hd : playMap (Chart.one n) qs = qs.foldl mapStep (Chart.one n, []) := by simp only [playMap, Chart.one_good hg, Bool.true_and, show decide (qs.length ≤ 200) = true from by simp; omega, cond_true]
  obtain ⟨g1, g2⟩ := playMap_good qs (a := (Chart.one n, [])) (Chart.one_good hg) (Chart.one_ok hg) okq
  rw [← hd] at g1 g2
  have dr := ((m1.dr.trans (o2.dr k)).trans w3.cux.dr)
  rw [call_run F Z (hS12.lk (g := 225) rfl) _ _ rfl]
  simp only [run0, run1, run2, run3, run4, noSlot, ownS, ownK, memN, RO.dst, lk, drop, forget, number, Nat.reduceBEq, cut?, splice?, builds, List.length_cons, List.length_nil, List.drop_succ_cons, List.drop_zero, List.take_succ_cons, List.take_zero, List.cons_append, List.nil_append, List.append_nil, List.drop_nil, List.take_nil, Nat.reduceAdd, Nat.reduceLeDiff, Nat.zero_add, Nat.add_zero, ↓reduceIte, Bool.not_true, Bool.not_false, decide_true, decide_false, eq_self, bne_self_eq_false, List.getElem?_cons_zero, List.getElem?_cons_succ, decide_eq_true_eq, Bool.false_eq_true, Bool.true_eq_false, reduceCtorEq, Nat.le_refl, e1, e2, e3, e4, k1, k2, k3]
  exact ⟨_, _, _, f1, rfl, dr.trans (o4.dr k), w3.cux.cur.on o4, v4, ⟨fun id hid => by have := r4.lo id hid; have := dr.next; omega, r4.nd⟩, g1, g2, playMap_small (by simp [Chart.Small, Chart.one]) qs⟩
theorem DrawRightChart_c (hS : Has F tS01d) (hS11 : Has F tS11) (hS12 : Has F tS12) (hf : h.floor ≤ h.next) (w : Vw 19 byte_enc h x code) :
    ∃ (c : Chart) (cs : List Cell) (y : Cell) (qs : List MapCmd) (h' : Heap) (fp fq : List Nat), call F Z 183 [.c x] h = some (.tup [.agg cs, .c y], h') ∧ On h h' ∧ Chart.RI h' cs c fp ∧ SlR 14 (Fl MapCmd.enc) h' y qs fq ∧ c.good = true ∧ c.Ok ∧ c.Small ∧ qs.length ≤ 100 ∧ ∀ q, q ∈ qs → q.Ok := by
  obtain ⟨h1, e1, o1, c1⟩ := l01New_c (Z := Z) hS hf w
  obtain ⟨c, cs, h2, fp, e2, d2, c2, v2, r2, g1, g2, g3⟩ := l12DrawRight_c (Z := Z) hS hS11 hS12 c1
  obtain ⟨y, h3, qs, e3, w3, hql, okq⟩ := l12DrawCmds_c (Z := Z) hS hS11 hS12 c2.le (Cux.self c2)
  obtain ⟨fy, q1, q2, _⟩ := w3.sep
  have v3 := Chart.okI.dr v2 w3.cux.dr (c1.far r2)
  obtain ⟨k1, k2, k3⟩ := Chart.lenI v2
  rw [call_run F Z (hS12.lk (g := 183) rfl) _ _ rfl]
  simp only [run0, run1, run2, run3, run4, noSlot, ownS, ownK, memN, RO.dst, lk, drop, forget, number, Nat.reduceBEq, cut?, splice?, builds, List.length_cons, List.length_nil, List.drop_succ_cons, List.drop_zero, List.take_succ_cons, List.take_zero, List.cons_append, List.nil_append, List.append_nil, List.drop_nil, List.take_nil, Nat.reduceAdd, Nat.reduceLeDiff, Nat.zero_add, Nat.add_zero, ↓reduceIte, Bool.not_true, Bool.not_false, decide_true, decide_false, eq_self, bne_self_eq_false, List.getElem?_cons_zero, List.getElem?_cons_succ, decide_eq_true_eq, Bool.false_eq_true, Bool.true_eq_false, reduceCtorEq, Nat.le_refl, e1, e2, k1, k2, k3, e3]
  exact ⟨c, cs, y, qs, _, fp, fy, rfl, (d2.trans w3.cux.dr).base o1 (Nat.le_refl _), v3, SlR.ofRaw q1, g1, g2, g3, hql, okq⟩
end
end Go.Proofs.Ytlbagejkjkfkjaa.A
/- The data of a ClientMsg, and its cells. -/
namespace Go.Proofs.Ytlbagejkjkfkjaa.A
open Go
set_option linter.unusedSimpArgs false
set_option linter.unusedVariables false
structure ClientMsg where
  client : Int
  seq : Int
  group : Int
  epoch : Int
  op : Int
  id : Int
  amount : Int
  tx : Int
  deriving DecidableEq
namespace ClientMsg
def enc (t : ClientMsg) : List Cell := [.int .i64 t.client, .int .i64 t.seq, .int .i64 t.group, .int .i64 t.epoch, .int .i64 t.op, .int .u64 t.id, .int .u64 t.amount, .int .i64 t.tx]
theorem len (t : ClientMsg) : t.enc.length = 8 := rfl
theorem tak (t : ClientMsg) : t.enc.take 8 = t.enc := rfl
def none_ : ClientMsg := ⟨0, 0, 0, 0, 0, 0, 0, 0⟩
/-- The numbers are those of the machine. -/
structure Ok (t : ClientMsg) : Prop where
  client : -9223372036854775808 ≤ t.client ∧ t.client ≤ 9223372036854775807
  seq : -9223372036854775808 ≤ t.seq ∧ t.seq ≤ 9223372036854775807
  group : -9223372036854775808 ≤ t.group ∧ t.group ≤ 9223372036854775807
  epoch : -9223372036854775808 ≤ t.epoch ∧ t.epoch ≤ 9223372036854775807
  op : -9223372036854775808 ≤ t.op ∧ t.op ≤ 9223372036854775807
  id : 0 ≤ t.id ∧ t.id ≤ 18446744073709551615
  amount : 0 ≤ t.amount ∧ t.amount ≤ 18446744073709551615
  tx : -9223372036854775808 ≤ t.tx ∧ t.tx ≤ 9223372036854775807
end ClientMsg
end Go.Proofs.Ytlbagejkjkfkjaa.A
/- The compact code of some functions: laws.eqClientMsg. -/
namespace Go.Proofs.Ytlbagejkjkfkjaa.A
open Go
/-- laws.eqClientMsg -/
def r152 : RF :=
 ⟨2, [.tmp 4],
 .seq (.reg [⟨none, .locb 2 (.t 0)⟩,
  ⟨none, .locb 3 (.t 1)⟩,
  ⟨none, .mov 4 (.k (.bool false))⟩])
 (.seq (.seq (.reg [⟨none, .fad 5 2 0⟩,
   ⟨none, .load 6 5 1 false⟩,
   ⟨none, .fad 7 3 0⟩,
   ⟨none, .load 8 7 1 false⟩,
   ⟨none, .bin 9 .neq (.t 6) (.t 8)⟩])
  (.cond (.t 9)
  (.seq (.reg [⟨none, .mov 4 (.k (.bool false))⟩])
   (.ret))
  (.skip)))
 (.seq (.seq (.reg [⟨none, .fad 10 2 1⟩,
   ⟨none, .load 11 10 1 false⟩,
   ⟨none, .fad 12 3 1⟩,
   ⟨none, .load 13 12 1 false⟩,
   ⟨none, .bin 14 .neq (.t 11) (.t 13)⟩])
  (.cond (.t 14)
  (.seq (.reg [⟨none, .mov 4 (.k (.bool false))⟩])
   (.ret))
  (.skip)))
 (.seq (.seq (.reg [⟨none, .fad 15 2 2⟩,
   ⟨none, .load 16 15 1 false⟩,
   ⟨none, .fad 17 3 2⟩,
   ⟨none, .load 18 17 1 false⟩,
   ⟨none, .bin 19 .neq (.t 16) (.t 18)⟩])
  (.cond (.t 19)
  (.seq (.reg [⟨none, .mov 4 (.k (.bool false))⟩])
   (.ret))
  (.skip)))
 (.seq (.seq (.reg [⟨none, .fad 20 2 3⟩,
   ⟨none, .load 21 20 5 true⟩,
   ⟨none, .fad 22 3 3⟩,
   ⟨none, .load 23 22 5 true⟩,
   ⟨none, .call (some 24) 99 [(.t 21), (.t 23)] false⟩,
   ⟨none, .not 25 (.t 24)⟩])
  (.cond (.t 25)
  (.seq (.reg [⟨none, .mov 4 (.k (.bool false))⟩])
   (.ret))
  (.skip)))
 (.seq (.reg [⟨none, .mov 4 (.k (.bool true))⟩])
 (.ret))))))⟩
/-- The functions of this text, with their numbers. -/
def tLClientMsg : List (Nat × RF) := [(152, r152)]
end Go.Proofs.Ytlbagejkjkfkjaa.A
/- What the converters of ClientMsg compute. -/
namespace Go.Proofs.Ytlbagejkjkfkjaa.A
open Go
set_option linter.unusedSimpArgs false
set_option linter.unusedVariables false
section
variable {F : Nat → Option RF} {Z : CallF} {h : Heap} {x y : Cell} {xs ys : List ClientMsg} {fp fq : List Nat}
def ClientMsg.zero : List Cell := [.int .i64 0, .int .i64 0, .int .i64 0, .int .i64 0, .int .i64 0, .int .u64 0, .int .u64 0, .int .i64 0]
set_option maxHeartbeats 1000000 in
theorem eqClientMsg_run (hL : Has F tLClientMsg) (hLRequest : Has F tLRequest) (p q : ClientMsg) (h : Heap) : call F Z 152 [.agg p.enc, .agg q.enc] h = some (.c (.bool (decide (p = q))), h) := by
  rw [call_run F Z (hL.lk (g := 152) rfl) _ _ rfl]
  obtain ⟨client1, seq1, group1, epoch1, op1, id1, amount1, tx1⟩ := p
  obtain ⟨client2, seq2, group2, epoch2, op2, id2, amount2, tx2⟩ := q
  simp only [ClientMsg.enc, run0, run1, run2, run3, run4, noSlot, ownS, ownK, memN, RO.dst, lk, drop, forget, number, Nat.reduceBEq, cut?, splice?, builds, List.length_cons, List.length_nil, List.drop_succ_cons, List.drop_zero, List.take_succ_cons, List.take_zero, List.cons_append, List.nil_append, List.append_nil, List.drop_nil, List.take_nil, Nat.reduceAdd, Nat.reduceLeDiff, Nat.zero_add, Nat.add_zero, ↓reduceIte, Bool.not_true, Bool.not_false, decide_true, decide_false, eq_self, bne_self_eq_false, List.getElem?_cons_zero, List.getElem?_cons_succ, decide_eq_true_eq, Bool.false_eq_true, Bool.true_eq_false, reduceCtorEq, Nat.le_refl, eqRequest_lit hLRequest]
  (repeat' ((first | (rw [gF_if]; split) | (rw [condC_if]; split) | (rw [pickR_if]; split)) <;> (rename_i hh; (try simp only [Bool.not_eq_true, decide_eq_true_eq] at hh); simp only [hh, run0, run1, run2, run3, run4, noSlot, ownS, ownK, memN, RO.dst, lk, drop, forget, number, Nat.reduceBEq, cut?, splice?, builds, List.length_cons, List.length_nil, List.drop_succ_cons, List.drop_zero, List.take_succ_cons, List.take_zero, List.cons_append, List.nil_append, List.append_nil, List.drop_nil, List.take_nil, Nat.reduceAdd, Nat.reduceLeDiff, Nat.zero_add, Nat.add_zero, ↓reduceIte, Bool.not_true, Bool.not_false, decide_true, decide_false, eq_self, bne_self_eq_false, List.getElem?_cons_zero, List.getElem?_cons_succ, decide_eq_true_eq, Bool.false_eq_true, Bool.true_eq_false, reduceCtorEq, Nat.le_refl, eqRequest_lit hLRequest]))) <;> refine fin_bool ?_ <;> simp_all <;> (try (intros; omega))
theorem eqClientMsg_lit (hL : Has F tLClientMsg) (hLRequest : Has F tLRequest) (client1 seq1 group1 epoch1 op1 id1 amount1 tx1 client2 seq2 group2 epoch2 op2 id2 amount2 tx2 : Int) (h : Heap) : call F Z 152 [.agg [.int .i64 client1, .int .i64 seq1, .int .i64 group1, .int .i64 epoch1, .int .i64 op1, .int .u64 id1, .int .u64 amount1, .int .i64 tx1], .agg [.int .i64 client2, .int .i64 seq2, .int .i64 group2, .int .i64 epoch2, .int .i64 op2, .int .u64 id2, .int .u64 amount2, .int .i64 tx2]] h = some (.c (.bool (decide ((⟨client1, seq1, group1, epoch1, op1, id1, amount1, tx1⟩ : ClientMsg) = ⟨client2, seq2, group2, epoch2, op2, id2, amount2, tx2⟩))), h) := eqClientMsg_run hL hLRequest ⟨client1, seq1, group1, epoch1, op1, id1, amount1, tx1⟩ ⟨client2, seq2, group2, epoch2, op2, id2, amount2, tx2⟩ h
end
end Go.Proofs.Ytlbagejkjkfkjaa.A
/- Clients that ask, ask again, and stop. -/
namespace Go.Proofs.Ytlbagejkjkfkjaa.A
open Go
set_option linter.unusedSimpArgs false
set_option linter.unusedVariables false
theorem On.put {h g : Heap} (o : On h g) {k : Nat} (hk : h.next ≤ k) (rows : List (List Cell)) : On h (g.put k rows) := ⟨⟨o.ext.1, fun id hid => by
  simp only [Heap.put]
  rw [if_neg (by omega)]
  exact o.ext.2 id hid⟩, o.fl⟩
theorem loadP_put1 (h : Heap) (k : Nat) (r : List Cell) (j n : Nat) : loadP (h.put k [r]) k 0 j n = cut? r j n := by simp [loadP, rowOf, Heap.put]
theorem loadP_get1 {h : Heap} {k : Nat} {r : List Cell} (hg : h.get k = some [r]) (j n : Nat) : loadP h k 0 j n = cut? r j n := by simp [loadP, rowOf, hg]
def Client.stop (c : Client) : Client := { c with busy := false, tries := 0, ask := Request.none_ }
def clientStop (c : Client) : Client × Bool := bif c.good && c.busy then (c.stop, true) else (c, false)
def Client.msg (c : Client) : ClientMsg := ⟨c.id, c.seq, (c.chart.of_ c.ask.id).group, c.chart.epoch, c.ask.op, c.ask.id, c.ask.amount, c.ask.tx⟩
def clientAgain (c : Client) : Client × ClientMsg × Bool := bif c.good && (c.busy && c.tries != 6) then ({ c with tries := c.tries + 1 }, c.msg, true) else (c, ClientMsg.none_, false)
def Client.asks (c : Client) (q : Request) : Client := { c with busy := true, ask := ⟨0, q.op, q.id, q.amount, q.tx⟩, seq := c.seq + 1, tries := 1 }
def clientAsk (c : Client) (q : Request) : Client × ClientMsg × Bool := bif c.good && (!c.busy && (inR q.op 0 8 && c.seq != 1000000)) then (c.asks q, (c.asks q).msg, true) else (c, ClientMsg.none_, false)
theorem Client.good_chart {c : Client} (h : c.good = true) : c.chart.good = true := by simp only [Client.good, Bool.and_eq_true] at h; exact h.2.2.1
theorem clientStop_small {c : Client} (sm : c.Small) : (clientStop c).1.Small := by
  unfold clientStop
  cases (c.good && c.busy) <;> exact sm
section
variable {F : Nat → Option RF} {Z : CallF} {h : Heap} {cs : List Cell} {c : Client} {fp : List Nat}
theorem copyClient_c (hI12 : Has F tI12) (hI16 : Has F tI16) (hf : h.floor ≤ h.next) (v : Client.RI h cs c fp) (sm : c.Small) : ∃ cs' h' fq, call F Z 199 [.agg cs] h = some (.agg cs', h') ∧ On h h' ∧ Client.RI h' cs' c fq ∧ Fre h fq := by
  obtain ⟨x, p, rfl, rfl, w⟩ := v
  obtain ⟨_, h1, _, e1, o1, ⟨y, q, rfl, rfl, u⟩, f⟩ := copyChart_c (Z := Z) hI12 hf (⟨x, _, rfl, rfl, w⟩ : Chart.RI h _ c.chart _) sm
  rw [call_run F Z (hI16.lk (g := 199) rfl) _ _ rfl]
  simp only [run0, run1, run2, run3, run4, noSlot, ownS, ownK, memN, RO.dst, lk, drop, forget, number, Nat.reduceBEq, cut?, splice?, builds, List.length_cons, List.length_nil, List.drop_succ_cons, List.drop_zero, List.take_succ_cons, List.take_zero, List.cons_append, List.nil_append, List.append_nil, List.drop_nil, List.take_nil, Nat.reduceAdd, Nat.reduceLeDiff, Nat.zero_add, Nat.add_zero, ↓reduceIte, Bool.not_true, Bool.not_false, decide_true, decide_false, eq_self, bne_self_eq_false, List.getElem?_cons_zero, List.getElem?_cons_succ, decide_eq_true_eq, Bool.false_eq_true, Bool.true_eq_false, reduceCtorEq, Nat.le_refl, e1]
  exact ⟨_, _, _, rfl, o1, ⟨y, _, rfl, rfl, u⟩, f⟩
theorem l16Copy_c (hS12 : Has F tS12) (hS16 : Has F tS16) (hf : h.floor ≤ h.next) (v : Client.RI h cs c fp) (sm : c.Small) : ∃ cs' h' fq, call F Z 197 [.agg cs] h = some (.agg cs', h') ∧ On h h' ∧ Client.RI h' cs' c fq ∧ Fre h fq := by
  obtain ⟨x, p, rfl, rfl, w⟩ := v
  obtain ⟨_, h1, _, e1, o1, ⟨y, q, rfl, rfl, u⟩, f⟩ := l12Copy_c (Z := Z) hS12 hf (⟨x, _, rfl, rfl, w⟩ : Chart.RI h _ c.chart _) sm
  rw [call_run F Z (hS16.lk (g := 197) rfl) _ _ rfl]
  simp only [run0, run1, run2, run3, run4, noSlot, ownS, ownK, memN, RO.dst, lk, drop, forget, number, Nat.reduceBEq, cut?, splice?, builds, List.length_cons, List.length_nil, List.drop_succ_cons, List.drop_zero, List.take_succ_cons, List.take_zero, List.cons_append, List.nil_append, List.append_nil, List.drop_nil, List.take_nil, Nat.reduceAdd, Nat.reduceLeDiff, Nat.zero_add, Nat.add_zero, ↓reduceIte, Bool.not_true, Bool.not_false, decide_true, decide_false, eq_self, bne_self_eq_false, List.getElem?_cons_zero, List.getElem?_cons_succ, decide_eq_true_eq, Bool.false_eq_true, Bool.true_eq_false, reduceCtorEq, Nat.le_refl, e1]
  exact ⟨_, _, _, rfl, o1, ⟨y, _, rfl, rfl, u⟩, f⟩
theorem message_run (hI11 : Has F tI11) (hI16 : Has F tI16) (hLi : Has F tLibslicesIndexFuncimplRangeimplRange) (v : Client.RI h cs c fp) (hg : c.chart.good = true) (g : 0 ≤ c.ask.id ∧ c.ask.id ≤ 18446744073709551615) :
    ∃ h', call F Z 202 [.agg cs] h = some (.agg c.msg.enc, h') ∧ On h h' := by
  obtain ⟨x, p, rfl, rfl, w⟩ := v
  obtain ⟨i, hi, q1, _, q2, _, _⟩ := Chart.has (c := c.chart) (Chart.good_ranges hg) g.1 g.2
  obtain ⟨hq, k, fr, hgq, on2⟩ := findRange_q (Z := Z) hI11 hLi w c.ask.id
  rw [q1] at fr
  have hld : ∀ j n, loadP k x.sid i j n = cut? (Range.at_ c.chart.ranges i).enc j n := (w.on (Fl.ok _) on2).loadD Range.none_ hi
  rw [call_run F Z (hI16.lk (g := 202) rfl) _ _ rfl]
  simp only [run0, run1, run2, run3, run4, noSlot, ownS, ownK, memN, RO.dst, lk, drop, forget, number, Nat.reduceBEq, cut?, splice?, builds, List.length_cons, List.length_nil, List.drop_succ_cons, List.drop_zero, List.take_succ_cons, List.take_zero, List.cons_append, List.nil_append, List.append_nil, List.drop_nil, List.take_nil, Nat.reduceAdd, Nat.reduceLeDiff, Nat.zero_add, Nat.add_zero, ↓reduceIte, Bool.not_true, Bool.not_false, decide_true, decide_false, eq_self, bne_self_eq_false, List.getElem?_cons_zero, List.getElem?_cons_succ, decide_eq_true_eq, Bool.false_eq_true, Bool.true_eq_false, reduceCtorEq, Nat.le_refl, fr, hgq, hld, w.idx hi, Range.enc]
  exact ⟨_, by simp only [Client.msg, ClientMsg.enc, q2], on2⟩
theorem l16Msg_run (hS : Has F tS01d) (hS11 : Has F tS11) (hS12 : Has F tS12) (hS16 : Has F tS16) (v : Client.RI h cs c fp) (ok : c.chart.Ok) (hg : c.chart.good = true) (g : 0 ≤ c.ask.id ∧ c.ask.id ≤ 18446744073709551615) :
    ∃ h', call F Z 201 [.agg cs] h = some (.agg c.msg.enc, h') ∧ On h h' := by
  obtain ⟨x, p, rfl, rfl, w⟩ := v
  obtain ⟨h1, e1, o1⟩ := sRouteOf_run (Z := Z) hS hS11 hS12 (⟨x, _, rfl, rfl, w⟩ : Chart.RI h _ c.chart _) ok g.1 g.2
  rw [call_run F Z (hS16.lk (g := 201) rfl) _ _ rfl]
  simp only [run0, run1, run2, run3, run4, noSlot, ownS, ownK, memN, RO.dst, lk, drop, forget, number, Nat.reduceBEq, cut?, splice?, builds, List.length_cons, List.length_nil, List.drop_succ_cons, List.drop_zero, List.take_succ_cons, List.take_zero, List.cons_append, List.nil_append, List.append_nil, List.drop_nil, List.take_nil, Nat.reduceAdd, Nat.reduceLeDiff, Nat.zero_add, Nat.add_zero, ↓reduceIte, Bool.not_true, Bool.not_false, decide_true, decide_false, eq_self, bne_self_eq_false, List.getElem?_cons_zero, List.getElem?_cons_succ, decide_eq_true_eq, Bool.false_eq_true, Bool.true_eq_false, reduceCtorEq, Nat.le_refl, e1]
  exact ⟨_, by simp only [Client.msg, ClientMsg.enc, Chart.route, hg, cond_true], o1⟩
theorem stop_run (hI16 : Has F tI16) {o : Nat} (hf : h.floor ≤ o) {y : Cell} (hg : h.get o = some [[.int .i64 c.id, .int .i64 c.seq, .int .i64 c.chart.epoch, y, .bool c.chart.moving, .int .u64 c.chart.lo, .int .i64 c.chart.to, .bool c.busy, .int .i64 c.tries, .int .i64 c.ask.epoch, .int .i64 c.ask.op, .int .u64 c.ask.id, .int .u64 c.ask.amount, .int .i64 c.ask.tx]]) :
    call F Z 200 [.c (.ptr o 0 0)] h = some (.tup [], h.put o [[.int .i64 c.id, .int .i64 c.seq, .int .i64 c.chart.epoch, y, .bool c.chart.moving, .int .u64 c.chart.lo, .int .i64 c.chart.to, .bool false, .int .i64 0, .int .i64 0, .int .i64 0, .int .u64 0, .int .u64 0, .int .i64 0]]) := by
  have hput := fun old new j => storeP_put (h := h) (rows := [[]]) hf (i := 0) (by decide) old new j
  simp only [List.set_cons_zero] at hput
  have e0 := put_same hg
  rw [call_run F Z (hI16.lk (g := 200) rfl) _ _ rfl]
  rw [← e0]
  simp only [run0, run1, run2, run3, run4, noSlot, ownS, ownK, memN, RO.dst, lk, drop, forget, number, Nat.reduceBEq, cut?, splice?, builds, List.length_cons, List.length_nil, List.drop_succ_cons, List.drop_zero, List.take_succ_cons, List.take_zero, List.cons_append, List.nil_append, List.append_nil, List.drop_nil, List.take_nil, Nat.reduceAdd, Nat.reduceLeDiff, Nat.zero_add, Nat.add_zero, ↓reduceIte, Bool.not_true, Bool.not_false, decide_true, decide_false, eq_self, bne_self_eq_false, List.getElem?_cons_zero, List.getElem?_cons_succ, decide_eq_true_eq, Bool.false_eq_true, Bool.true_eq_false, reduceCtorEq, Nat.le_refl, hput, putM, List.set_cons_zero]
  simp only [put_put]
theorem ClientStop_c (hI11 : Has F tI11) (hI12 : Has F tI12) (hI16 : Has F tI16) (hLi : Has F tLibslicesIndexFuncimplRangeimplRange) (hf : h.floor ≤ h.next) (v : Client.RI h cs c fp) (ok : c.Ok) (sm : c.Small) :
    ∃ cs' h' fq, call F Z 148 [.agg cs] h = some (.tup [.agg cs', .c (.bool (clientStop c).2)], h') ∧ On h h' ∧ Client.RI h' cs' (clientStop c).1 fq ∧ Fre h fq := by
  obtain ⟨_, h1, _, e1, o1, ⟨y, q, rfl, rfl, u⟩, f⟩ := copyClient_c (Z := Z) hI12 hI16 hf v sm
  have f1 := o1.le hf
  have st : ∀ old new : List Cell, old.length = 14 → new.length = 14 → storeP (h1.push [old]) h1.next 0 0 new = some (h1.push [new]) := fun old new q1 q2 => storeP_push (rows := [old]) (i := 0) f1 rfl (by omega)
  obtain ⟨h2, e2, o2⟩ := isClient_run (Z := Z) (h := h1.push [[.int .i64 c.id, .int .i64 c.seq, .int .i64 c.chart.epoch, y, .bool c.chart.moving, .int .u64 c.chart.lo, .int .i64 c.chart.to, .bool c.busy, .int .i64 c.tries, .int .i64 c.ask.epoch, .int .i64 c.ask.op, .int .u64 c.ask.id, .int .u64 c.ask.amount, .int .i64 c.ask.tx]]) hI11 hI12 hI16 hLi (Client.okI.on v (o1.trans (On.push _ _))) ok.chart
  have hg2 : h2.get h1.next = some [[.int .i64 c.id, .int .i64 c.seq, .int .i64 c.chart.epoch, y, .bool c.chart.moving, .int .u64 c.chart.lo, .int .i64 c.chart.to, .bool c.busy, .int .i64 c.tries, .int .i64 c.ask.epoch, .int .i64 c.ask.op, .int .u64 c.ask.id, .int .u64 c.ask.amount, .int .i64 c.ask.tx]] := by
    rw [o2.ext.2 _ (by rw [push_next]; omega)]; exact push_get _ _
  have hfl : h2.floor ≤ h1.next := by rw [o2.fl]; exact f1
  have es := stop_run (Z := Z) hI16 hfl hg2
  have o12 := (On.push h1 [[.int .i64 c.id, .int .i64 c.seq, .int .i64 c.chart.epoch, y, .bool c.chart.moving, .int .u64 c.chart.lo, .int .i64 c.chart.to, .bool c.busy, .int .i64 c.tries, .int .i64 c.ask.epoch, .int .i64 c.ask.op, .int .u64 c.ask.id, .int .u64 c.ask.amount, .int .i64 c.ask.tx]]).trans o2
  have o2' := o1.trans o12
  have lg := fun j n => loadP_get1 hg2 j n
  have h1n := o1.ext.1
  obtain ⟨x, p, rfl, rfl, w⟩ := v
  rw [call_run F Z (hI16.lk (g := 148) rfl) _ _ rfl]
  simp only [run0, run1, run2, run3, run4, noSlot, ownS, ownK, memN, RO.dst, lk, drop, forget, number, Nat.reduceBEq, cut?, splice?, builds, List.length_cons, List.length_nil, List.drop_succ_cons, List.drop_zero, List.take_succ_cons, List.take_zero, List.cons_append, List.nil_append, List.append_nil, List.drop_nil, List.take_nil, Nat.reduceAdd, Nat.reduceLeDiff, Nat.zero_add, Nat.add_zero, ↓reduceIte, Bool.not_true, Bool.not_false, decide_true, decide_false, eq_self, bne_self_eq_false, List.getElem?_cons_zero, List.getElem?_cons_succ, decide_eq_true_eq, Bool.false_eq_true, Bool.true_eq_false, reduceCtorEq, Nat.le_refl, e1, st, e2]
  cases hgd : c.good with
  | false =>
    rw [hgd] at e2
    simp only [run0, run1, run2, run3, run4, noSlot, ownS, ownK, memN, RO.dst, lk, drop, forget, number, Nat.reduceBEq, cut?, splice?, builds, List.length_cons, List.length_nil, List.drop_succ_cons, List.drop_zero, List.take_succ_cons, List.take_zero, List.cons_append, List.nil_append, List.append_nil, List.drop_nil, List.take_nil, Nat.reduceAdd, Nat.reduceLeDiff, Nat.zero_add, Nat.add_zero, ↓reduceIte, Bool.not_true, Bool.not_false, decide_true, decide_false, eq_self, bne_self_eq_false, List.getElem?_cons_zero, List.getElem?_cons_succ, decide_eq_true_eq, Bool.false_eq_true, Bool.true_eq_false, reduceCtorEq, Nat.le_refl, e2, lg]
    exact ⟨_, _, _, by simp only [clientStop, hgd, Bool.false_and, cond_false]; rfl, o2', by simp only [clientStop, hgd, Bool.false_and, cond_false]; exact ⟨y, _, rfl, rfl, u.on (Fl.ok _) o12⟩, f⟩
  | true =>
    rw [hgd] at e2
    cases hb : c.busy with
    | false =>
      simp only [run0, run1, run2, run3, run4, noSlot, ownS, ownK, memN, RO.dst, lk, drop, forget, number, Nat.reduceBEq, cut?, splice?, builds, List.length_cons, List.length_nil, List.drop_succ_cons, List.drop_zero, List.take_succ_cons, List.take_zero, List.cons_append, List.nil_append, List.append_nil, List.drop_nil, List.take_nil, Nat.reduceAdd, Nat.reduceLeDiff, Nat.zero_add, Nat.add_zero, ↓reduceIte, Bool.not_true, Bool.not_false, decide_true, decide_false, eq_self, bne_self_eq_false, List.getElem?_cons_zero, List.getElem?_cons_succ, decide_eq_true_eq, Bool.false_eq_true, Bool.true_eq_false, reduceCtorEq, Nat.le_refl, e2, lg, hb]
      exact ⟨_, _, _, by simp only [clientStop, hgd, hb, Bool.and_false, cond_false]; rfl, o2', by simp only [clientStop, hgd, hb, Bool.and_false, cond_false]; exact ⟨y, _, by rw [hb], rfl, u.on (Fl.ok _) o12⟩, f⟩
    | true =>
      simp only [run0, run1, run2, run3, run4, noSlot, ownS, ownK, memN, RO.dst, lk, drop, forget, number, Nat.reduceBEq, cut?, splice?, builds, List.length_cons, List.length_nil, List.drop_succ_cons, List.drop_zero, List.take_succ_cons, List.take_zero, List.cons_append, List.nil_append, List.append_nil, List.drop_nil, List.take_nil, Nat.reduceAdd, Nat.reduceLeDiff, Nat.zero_add, Nat.add_zero, ↓reduceIte, Bool.not_true, Bool.not_false, decide_true, decide_false, eq_self, bne_self_eq_false, List.getElem?_cons_zero, List.getElem?_cons_succ, decide_eq_true_eq, Bool.false_eq_true, Bool.true_eq_false, reduceCtorEq, Nat.le_refl, e2, lg, hb, es, loadP_put1]
      exact ⟨_, _, _, by simp only [clientStop, hgd, hb, Bool.and_true, cond_true]; rfl, o2'.put (by omega) _, by simp only [clientStop, hgd, hb, Bool.and_true, cond_true]; exact ⟨y, _, rfl, rfl, u.on (Fl.ok _) (o12.put (Nat.le_refl _) _)⟩, f⟩
theorem sClientStop_c (hS : Has F tS01d) (hS11 : Has F tS11) (hS12 : Has F tS12) (hS16 : Has F tS16) (hf : h.floor ≤ h.next) (v : Client.RI h cs c fp) (ok : c.Ok) (sm : c.Small) :
    ∃ cs' h' fq, call F Z 147 [.agg cs] h = some (.tup [.agg cs', .c (.bool (clientStop c).2)], h') ∧ On h h' ∧ Client.RI h' cs' (clientStop c).1 fq ∧ Fre h fq := by
  obtain ⟨_, h1, _, e1, o1, ⟨y, q, rfl, rfl, u⟩, f⟩ := l16Copy_c (Z := Z) hS12 hS16 hf v sm
  have e2 := sClientOk_run (Z := Z) hS hS11 hS12 hS16 (Client.okI.on v o1) ok.chart
  obtain ⟨x, p, rfl, rfl, w⟩ := v
  have hfree : ∀ (a b e : Int) (z : Cell) (mv : Bool) (lo to : Int) (bz : Bool) (tr r1 r2 r3 r4 r5 : Int) (g : Heap), call F Z 198 [.agg [.int .i64 a, .int .i64 b, .int .i64 e, z, .bool mv, .int .u64 lo, .int .i64 to, .bool bz, .int .i64 tr, .int .i64 r1, .int .i64 r2, .int .u64 r3, .int .u64 r4, .int .i64 r5]] g = some (.agg [.int .i64 a, .int .i64 b, .int .i64 e, z, .bool mv, .int .u64 lo, .int .i64 to, .bool false, .int .i64 0, .int .i64 0, .int .i64 0, .int .u64 0, .int .u64 0, .int .i64 0], g) := by
    intro a b e z mv lo to bz tr r1 r2 r3 r4 r5 g
    rw [call_run F Z (hS16.lk (g := 198) rfl) _ _ rfl]
    simp only [run0, run1, run2, run3, run4, noSlot, ownS, ownK, memN, RO.dst, lk, drop, forget, number, Nat.reduceBEq, cut?, splice?, builds, List.length_cons, List.length_nil, List.drop_succ_cons, List.drop_zero, List.take_succ_cons, List.take_zero, List.cons_append, List.nil_append, List.append_nil, List.drop_nil, List.take_nil, Nat.reduceAdd, Nat.reduceLeDiff, Nat.zero_add, Nat.add_zero, ↓reduceIte, Bool.not_true, Bool.not_false, decide_true, decide_false, eq_self, bne_self_eq_false, List.getElem?_cons_zero, List.getElem?_cons_succ, decide_eq_true_eq, Bool.false_eq_true, Bool.true_eq_false, reduceCtorEq, Nat.le_refl]
  rw [call_run F Z (hS16.lk (g := 147) rfl) _ _ rfl]
  simp only [run0, run1, run2, run3, run4, noSlot, ownS, ownK, memN, RO.dst, lk, drop, forget, number, Nat.reduceBEq, cut?, splice?, builds, List.length_cons, List.length_nil, List.drop_succ_cons, List.drop_zero, List.take_succ_cons, List.take_zero, List.cons_append, List.nil_append, List.append_nil, List.drop_nil, List.take_nil, Nat.reduceAdd, Nat.reduceLeDiff, Nat.zero_add, Nat.add_zero, ↓reduceIte, Bool.not_true, Bool.not_false, decide_true, decide_false, eq_self, bne_self_eq_false, List.getElem?_cons_zero, List.getElem?_cons_succ, decide_eq_true_eq, Bool.false_eq_true, Bool.true_eq_false, reduceCtorEq, Nat.le_refl, e1, e2]
  cases hgd : c.good with
  | false =>
    simp only [run0, run1, run2, run3, run4, noSlot, ownS, ownK, memN, RO.dst, lk, drop, forget, number, Nat.reduceBEq, cut?, splice?, builds, List.length_cons, List.length_nil, List.drop_succ_cons, List.drop_zero, List.take_succ_cons, List.take_zero, List.cons_append, List.nil_append, List.append_nil, List.drop_nil, List.take_nil, Nat.reduceAdd, Nat.reduceLeDiff, Nat.zero_add, Nat.add_zero, ↓reduceIte, Bool.not_true, Bool.not_false, decide_true, decide_false, eq_self, bne_self_eq_false, List.getElem?_cons_zero, List.getElem?_cons_succ, decide_eq_true_eq, Bool.false_eq_true, Bool.true_eq_false, reduceCtorEq, Nat.le_refl]
    exact ⟨_, _, _, by simp only [clientStop, hgd, Bool.false_and, cond_false]; rfl, o1, by simp only [clientStop, hgd, Bool.false_and, cond_false]; exact ⟨y, _, rfl, rfl, u⟩, f⟩
  | true =>
    cases hb : c.busy with
    | false =>
      simp only [run0, run1, run2, run3, run4, noSlot, ownS, ownK, memN, RO.dst, lk, drop, forget, number, Nat.reduceBEq, cut?, splice?, builds, List.length_cons, List.length_nil, List.drop_succ_cons, List.drop_zero, List.take_succ_cons, List.take_zero, List.cons_append, List.nil_append, List.append_nil, List.drop_nil, List.take_nil, Nat.reduceAdd, Nat.reduceLeDiff, Nat.zero_add, Nat.add_zero, ↓reduceIte, Bool.not_true, Bool.not_false, decide_true, decide_false, eq_self, bne_self_eq_false, List.getElem?_cons_zero, List.getElem?_cons_succ, decide_eq_true_eq, Bool.false_eq_true, Bool.true_eq_false, reduceCtorEq, Nat.le_refl]
      exact ⟨_, _, _, by simp only [clientStop, hgd, hb, Bool.and_false, cond_false]; rfl, o1, by simp only [clientStop, hgd, hb, Bool.and_false, cond_false]; exact ⟨y, _, by rw [hb], rfl, u⟩, f⟩
    | true =>
      simp only [run0, run1, run2, run3, run4, noSlot, ownS, ownK, memN, RO.dst, lk, drop, forget, number, Nat.reduceBEq, cut?, splice?, builds, List.length_cons, List.length_nil, List.drop_succ_cons, List.drop_zero, List.take_succ_cons, List.take_zero, List.cons_append, List.nil_append, List.append_nil, List.drop_nil, List.take_nil, Nat.reduceAdd, Nat.reduceLeDiff, Nat.zero_add, Nat.add_zero, ↓reduceIte, Bool.not_true, Bool.not_false, decide_true, decide_false, eq_self, bne_self_eq_false, List.getElem?_cons_zero, List.getElem?_cons_succ, decide_eq_true_eq, Bool.false_eq_true, Bool.true_eq_false, reduceCtorEq, Nat.le_refl, hfree]
      exact ⟨_, _, _, by simp only [clientStop, hgd, hb, Bool.and_true, cond_true]; rfl, o1, by simp only [clientStop, hgd, hb, Bool.and_true, cond_true]; exact ⟨y, _, rfl, rfl, u⟩, f⟩
end
end Go.Proofs.Ytlbagejkjkfkjaa.A
/- A client that asks again. -/
namespace Go.Proofs.Ytlbagejkjkfkjaa.A
open Go
set_option linter.unusedSimpArgs false
set_option linter.unusedVariables false
theorem ClientMsg.drp (t : ClientMsg) : t.enc.drop 8 = [] := rfl
theorem clientAgain_small {c : Client} (sm : c.Small) : (clientAgain c).1.Small := by
  unfold clientAgain
  cases (c.good && (c.busy && c.tries != 6)) <;> exact sm
theorem clientAsk_small {c : Client} {q : Request} (sm : c.Small) : (clientAsk c q).1.Small := by
  unfold clientAsk
  cases (c.good && (!c.busy && (inR q.op 0 8 && c.seq != 1000000))) <;> exact sm
theorem Client.good_tries {c : Client} (h : c.good = true) (hb : c.busy = true) : IntKind.i64.wrap (c.tries + 1) = c.tries + 1 := by
  simp only [Client.good, hb, cond_true, Bool.and_eq_true, inR, decide_eq_true_eq] at h
  exact wrapI _ (by omega) (by omega)
theorem Client.good_seq {c : Client} (h : c.good = true) : IntKind.i64.wrap (c.seq + 1) = c.seq + 1 := by
  simp only [Client.good, Bool.and_eq_true, inR, decide_eq_true_eq] at h
  exact wrapI _ (by omega) (by omega)
section
variable {F : Nat → Option RF} {Z : CallF} {h : Heap} {cs : List Cell} {c : Client} {fp : List Nat}
theorem ClientAgain_c (hI11 : Has F tI11) (hI12 : Has F tI12) (hI16 : Has F tI16) (hLi : Has F tLibslicesIndexFuncimplRangeimplRange) (hf : h.floor ≤ h.next) (v : Client.RI h cs c fp) (ok : c.Ok) (sm : c.Small) :
    ∃ cs' h' fq, call F Z 151 [.agg cs] h = some (.tup [.agg cs', .agg (clientAgain c).2.1.enc, .c (.bool (clientAgain c).2.2)], h') ∧ On h h' ∧ Client.RI h' cs' (clientAgain c).1 fq ∧ Fre h fq := by
  obtain ⟨_, h1, _, e1, o1, ⟨y, q, rfl, rfl, u⟩, f⟩ := copyClient_c (Z := Z) hI12 hI16 hf v sm
  obtain ⟨h2, e2, o2⟩ := isClient_run (Z := Z) hI11 hI12 hI16 hLi (Client.okI.on v o1) ok.chart
  have u2 := u.on (Fl.ok _) o2
  have o12 := o1.trans o2
  obtain ⟨x, p, rfl, rfl, w⟩ := v
  rw [call_run F Z (hI16.lk (g := 151) rfl) _ _ rfl]
  cases hgd : c.good with
  | false =>
    rw [hgd] at e2
    simp only [run0, run1, run2, run3, run4, noSlot, ownS, ownK, memN, RO.dst, lk, drop, forget, number, Nat.reduceBEq, cut?, splice?, builds, List.length_cons, List.length_nil, List.drop_succ_cons, List.drop_zero, List.take_succ_cons, List.take_zero, List.cons_append, List.nil_append, List.append_nil, List.drop_nil, List.take_nil, Nat.reduceAdd, Nat.reduceLeDiff, Nat.zero_add, Nat.add_zero, ↓reduceIte, Bool.not_true, Bool.not_false, decide_true, decide_false, eq_self, bne_self_eq_false, List.getElem?_cons_zero, List.getElem?_cons_succ, decide_eq_true_eq, Bool.false_eq_true, Bool.true_eq_false, reduceCtorEq, Nat.le_refl, e1, e2]
    exact ⟨_, _, _, by simp only [clientAgain, hgd, Bool.false_and, cond_false]; rfl, o12, by simp only [clientAgain, hgd, Bool.false_and, cond_false]; exact ⟨y, _, rfl, rfl, u2⟩, f⟩
  | true =>
    rw [hgd] at e2
    simp only [run0, run1, run2, run3, run4, noSlot, ownS, ownK, memN, RO.dst, lk, drop, forget, number, Nat.reduceBEq, cut?, splice?, builds, List.length_cons, List.length_nil, List.drop_succ_cons, List.drop_zero, List.take_succ_cons, List.take_zero, List.cons_append, List.nil_append, List.append_nil, List.drop_nil, List.take_nil, Nat.reduceAdd, Nat.reduceLeDiff, Nat.zero_add, Nat.add_zero, ↓reduceIte, Bool.not_true, Bool.not_false, decide_true, decide_false, eq_self, bne_self_eq_false, List.getElem?_cons_zero, List.getElem?_cons_succ, decide_eq_true_eq, Bool.false_eq_true, Bool.true_eq_false, reduceCtorEq, Nat.le_refl, e1, e2]
    cases hb : c.busy with
    | false =>
      simp only [run0, run1, run2, run3, run4, noSlot, ownS, ownK, memN, RO.dst, lk, drop, forget, number, Nat.reduceBEq, cut?, splice?, builds, List.length_cons, List.length_nil, List.drop_succ_cons, List.drop_zero, List.take_succ_cons, List.take_zero, List.cons_append, List.nil_append, List.append_nil, List.drop_nil, List.take_nil, Nat.reduceAdd, Nat.reduceLeDiff, Nat.zero_add, Nat.add_zero, ↓reduceIte, Bool.not_true, Bool.not_false, decide_true, decide_false, eq_self, bne_self_eq_false, List.getElem?_cons_zero, List.getElem?_cons_succ, decide_eq_true_eq, Bool.false_eq_true, Bool.true_eq_false, reduceCtorEq, Nat.le_refl]
      exact ⟨_, _, _, by simp only [clientAgain, hgd, hb, Bool.false_and, Bool.and_false, cond_false]; rfl, o12, by simp only [clientAgain, hgd, hb, Bool.false_and, Bool.and_false, cond_false]; exact ⟨y, _, by rw [hb], rfl, u2⟩, f⟩
    | true =>
      cases ht : (c.tries == 6) with
      | true =>
        simp only [run0, run1, run2, run3, run4, noSlot, ownS, ownK, memN, RO.dst, lk, drop, forget, number, Nat.reduceBEq, cut?, splice?, builds, List.length_cons, List.length_nil, List.drop_succ_cons, List.drop_zero, List.take_succ_cons, List.take_zero, List.cons_append, List.nil_append, List.append_nil, List.drop_nil, List.take_nil, Nat.reduceAdd, Nat.reduceLeDiff, Nat.zero_add, Nat.add_zero, ↓reduceIte, Bool.not_true, Bool.not_false, decide_true, decide_false, eq_self, bne_self_eq_false, List.getElem?_cons_zero, List.getElem?_cons_succ, decide_eq_true_eq, Bool.false_eq_true, Bool.true_eq_false, reduceCtorEq, Nat.le_refl, ht]
        exact ⟨_, _, _, by simp only [clientAgain, hgd, hb, bne, ht, Bool.not_true, Bool.and_false, cond_false]; rfl, o12, by simp only [clientAgain, hgd, hb, bne, ht, Bool.not_true, Bool.and_false, cond_false]; exact ⟨y, _, by rw [hb], rfl, u2⟩, f⟩
      | false =>
        have hw := Client.good_tries hgd hb
        obtain ⟨h3, em, om⟩ := message_run (Z := Z) (h := ⟨h2.next, h2.next, h2.get⟩) (c := { c with tries := c.tries + 1 }) hI11 hI16 hLi ⟨y, _, rfl, rfl, u2.up (Fl.ok _) _⟩ (Client.good_chart (c := c) hgd) ok.ask.id
        obtain ⟨_, g, em, hgq, og⟩ := quietly em om
        simp only [hb] at em
        simp only [run0, run1, run2, run3, run4, noSlot, ownS, ownK, memN, RO.dst, lk, drop, forget, number, Nat.reduceBEq, cut?, splice?, builds, List.length_cons, List.length_nil, List.drop_succ_cons, List.drop_zero, List.take_succ_cons, List.take_zero, List.cons_append, List.nil_append, List.append_nil, List.drop_nil, List.take_nil, Nat.reduceAdd, Nat.reduceLeDiff, Nat.zero_add, Nat.add_zero, ↓reduceIte, Bool.not_true, Bool.not_false, decide_true, decide_false, eq_self, bne_self_eq_false, List.getElem?_cons_zero, List.getElem?_cons_succ, decide_eq_true_eq, Bool.false_eq_true, Bool.true_eq_false, reduceCtorEq, Nat.le_refl, ht, hw, em, hgq, ClientMsg.len, ClientMsg.tak, ClientMsg.drp]
        exact ⟨_, _, _, by simp only [clientAgain, hgd, hb, bne, ht, Bool.not_false, Bool.and_true, cond_true]; rfl, o12.trans og, by simp only [clientAgain, hgd, hb, bne, ht, Bool.not_false, Bool.and_true, cond_true]; exact ⟨y, _, rfl, rfl, u2.on (Fl.ok _) og⟩, f⟩
theorem sClientAgain_c (hS : Has F tS01d) (hS11 : Has F tS11) (hS12 : Has F tS12) (hS16 : Has F tS16) (hf : h.floor ≤ h.next) (v : Client.RI h cs c fp) (ok : c.Ok) (sm : c.Small) :
    ∃ cs' h' fq, call F Z 150 [.agg cs] h = some (.tup [.agg cs', .agg (clientAgain c).2.1.enc, .c (.bool (clientAgain c).2.2)], h') ∧ On h h' ∧ Client.RI h' cs' (clientAgain c).1 fq ∧ Fre h fq := by
  obtain ⟨_, h1, _, e1, o1, ⟨y, q, rfl, rfl, u2⟩, f⟩ := l16Copy_c (Z := Z) hS12 hS16 hf v sm
  have e2 := sClientOk_run (Z := Z) hS hS11 hS12 hS16 (Client.okI.on v o1) ok.chart
  obtain ⟨x, p, rfl, rfl, w⟩ := v
  rw [call_run F Z (hS16.lk (g := 150) rfl) _ _ rfl]
  cases hgd : c.good with
  | false =>
    rw [hgd] at e2
    simp only [run0, run1, run2, run3, run4, noSlot, ownS, ownK, memN, RO.dst, lk, drop, forget, number, Nat.reduceBEq, cut?, splice?, builds, List.length_cons, List.length_nil, List.drop_succ_cons, List.drop_zero, List.take_succ_cons, List.take_zero, List.cons_append, List.nil_append, List.append_nil, List.drop_nil, List.take_nil, Nat.reduceAdd, Nat.reduceLeDiff, Nat.zero_add, Nat.add_zero, ↓reduceIte, Bool.not_true, Bool.not_false, decide_true, decide_false, eq_self, bne_self_eq_false, List.getElem?_cons_zero, List.getElem?_cons_succ, decide_eq_true_eq, Bool.false_eq_true, Bool.true_eq_false, reduceCtorEq, Nat.le_refl, e1, e2]
    exact ⟨_, _, _, by simp only [clientAgain, hgd, Bool.false_and, cond_false]; rfl, o1, by simp only [clientAgain, hgd, Bool.false_and, cond_false]; exact ⟨y, _, rfl, rfl, u2⟩, f⟩
  | true =>
    rw [hgd] at e2
    simp only [run0, run1, run2, run3, run4, noSlot, ownS, ownK, memN, RO.dst, lk, drop, forget, number, Nat.reduceBEq, cut?, splice?, builds, List.length_cons, List.length_nil, List.drop_succ_cons, List.drop_zero, List.take_succ_cons, List.take_zero, List.cons_append, List.nil_append, List.append_nil, List.drop_nil, List.take_nil, Nat.reduceAdd, Nat.reduceLeDiff, Nat.zero_add, Nat.add_zero, ↓reduceIte, Bool.not_true, Bool.not_false, decide_true, decide_false, eq_self, bne_self_eq_false, List.getElem?_cons_zero, List.getElem?_cons_succ, decide_eq_true_eq, Bool.false_eq_true, Bool.true_eq_false, reduceCtorEq, Nat.le_refl, e1, e2]
    cases hb : c.busy with
    | false =>
      simp only [run0, run1, run2, run3, run4, noSlot, ownS, ownK, memN, RO.dst, lk, drop, forget, number, Nat.reduceBEq, cut?, splice?, builds, List.length_cons, List.length_nil, List.drop_succ_cons, List.drop_zero, List.take_succ_cons, List.take_zero, List.cons_append, List.nil_append, List.append_nil, List.drop_nil, List.take_nil, Nat.reduceAdd, Nat.reduceLeDiff, Nat.zero_add, Nat.add_zero, ↓reduceIte, Bool.not_true, Bool.not_false, decide_true, decide_false, eq_self, bne_self_eq_false, List.getElem?_cons_zero, List.getElem?_cons_succ, decide_eq_true_eq, Bool.false_eq_true, Bool.true_eq_false, reduceCtorEq, Nat.le_refl]
      exact ⟨_, _, _, by simp only [clientAgain, hgd, hb, Bool.false_and, Bool.and_false, cond_false]; rfl, o1, by simp only [clientAgain, hgd, hb, Bool.false_and, Bool.and_false, cond_false]; exact ⟨y, _, by rw [hb], rfl, u2⟩, f⟩
    | true =>
      cases ht : (c.tries == 6) with
      | true =>
        simp only [run0, run1, run2, run3, run4, noSlot, ownS, ownK, memN, RO.dst, lk, drop, forget, number, Nat.reduceBEq, cut?, splice?, builds, List.length_cons, List.length_nil, List.drop_succ_cons, List.drop_zero, List.take_succ_cons, List.take_zero, List.cons_append, List.nil_append, List.append_nil, List.drop_nil, List.take_nil, Nat.reduceAdd, Nat.reduceLeDiff, Nat.zero_add, Nat.add_zero, ↓reduceIte, Bool.not_true, Bool.not_false, decide_true, decide_false, eq_self, bne_self_eq_false, List.getElem?_cons_zero, List.getElem?_cons_succ, decide_eq_true_eq, Bool.false_eq_true, Bool.true_eq_false, reduceCtorEq, Nat.le_refl, ht]
        exact ⟨_, _, _, by simp only [clientAgain, hgd, hb, bne, ht, Bool.not_true, Bool.and_false, cond_false]; rfl, o1, by simp only [clientAgain, hgd, hb, bne, ht, Bool.not_true, Bool.and_false, cond_false]; exact ⟨y, _, by rw [hb], rfl, u2⟩, f⟩
      | false =>
        have hw := Client.good_tries hgd hb
        obtain ⟨h3, em, om⟩ := l16Msg_run (Z := Z) (h := ⟨h1.next, h1.next, h1.get⟩) (c := { c with tries := c.tries + 1 }) hS hS11 hS12 hS16 ⟨y, _, rfl, rfl, u2.up (Fl.ok _) _⟩ ok.chart (Client.good_chart (c := c) hgd) ok.ask.id
        obtain ⟨_, g, em, hgq, og⟩ := quietly em om
        simp only [hb] at em
        simp only [run0, run1, run2, run3, run4, noSlot, ownS, ownK, memN, RO.dst, lk, drop, forget, number, Nat.reduceBEq, cut?, splice?, builds, List.length_cons, List.length_nil, List.drop_succ_cons, List.drop_zero, List.take_succ_cons, List.take_zero, List.cons_append, List.nil_append, List.append_nil, List.drop_nil, List.take_nil, Nat.reduceAdd, Nat.reduceLeDiff, Nat.zero_add, Nat.add_zero, ↓reduceIte, Bool.not_true, Bool.not_false, decide_true, decide_false, eq_self, bne_self_eq_false, List.getElem?_cons_zero, List.getElem?_cons_succ, decide_eq_true_eq, Bool.false_eq_true, Bool.true_eq_false, reduceCtorEq, Nat.le_refl, ht, hw, em, hgq, ClientMsg.len, ClientMsg.tak, ClientMsg.drp]
        exact ⟨_, _, _, by simp only [clientAgain, hgd, hb, bne, ht, Bool.not_false, Bool.and_true, cond_true]; rfl, o1.trans og, by simp only [clientAgain, hgd, hb, bne, ht, Bool.not_false, Bool.and_true, cond_true]; exact ⟨y, _, rfl, rfl, u2.on (Fl.ok _) og⟩, f⟩
end
end Go.Proofs.Ytlbagejkjkfkjaa.A
/- A client that asks. -/
namespace Go.Proofs.Ytlbagejkjkfkjaa.A
open Go
set_option linter.unusedSimpArgs false
set_option linter.unusedVariables false
theorem clientAsk_no {c : Client} {q : Request} (h : (c.good && (!c.busy && (inR q.op 0 8 && c.seq != 1000000))) = false) : clientAsk c q = (c, ClientMsg.none_, false) := by unfold clientAsk; rw [h]; rfl
theorem clientAsk_yes {c : Client} {q : Request} (h : (c.good && (!c.busy && (inR q.op 0 8 && c.seq != 1000000))) = true) : clientAsk c q = (c.asks q, (c.asks q).msg, true) := by unfold clientAsk; rw [h]; rfl
section
variable {F : Nat → Option RF} {Z : CallF} {h : Heap} {cs : List Cell} {c : Client} {fp : List Nat}
set_option maxHeartbeats 2000000 in
theorem ClientAsk_c (hI11 : Has F tI11) (hI12 : Has F tI12) (hI16 : Has F tI16) (hLi : Has F tLibslicesIndexFuncimplRangeimplRange) (hf : h.floor ≤ h.next) (v : Client.RI h cs c fp) (q : Request) (ok : c.Ok) (sm : c.Small) (okq : q.Ok) :
    ∃ cs' h' fq, call F Z 161 [.agg cs, .agg q.enc] h = some (.tup [.agg cs', .agg (clientAsk c q).2.1.enc, .c (.bool (clientAsk c q).2.2)], h') ∧ On h h' ∧ Client.RI h' cs' (clientAsk c q).1 fq ∧ Fre h fq := by
  obtain ⟨_, h1, _, e1, o1, ⟨y, p', rfl, rfl, u⟩, f⟩ := copyClient_c (Z := Z) hI12 hI16 hf v sm
  obtain ⟨h2, e2, o2⟩ := isClient_run (Z := Z) hI11 hI12 hI16 hLi (Client.okI.on v o1) ok.chart
  have u2 := u.on (Fl.ok _) o2
  have o12 := o1.trans o2
  obtain ⟨x, p, rfl, rfl, w⟩ := v
  obtain ⟨qe, qo, qi, qa, qt⟩ := q
  cases hc : (c.good && (!c.busy && (inR qo 0 8 && c.seq != 1000000))) with
  | false =>
    rw [clientAsk_no hc]
    rw [call_run F Z (hI16.lk (g := 161) rfl) _ _ rfl]
    have hfin : ∃ cs' h' fq, (some (V.tup [.agg [.int .i64 c.id, .int .i64 c.seq, .int .i64 c.chart.epoch, y, .bool c.chart.moving, .int .u64 c.chart.lo, .int .i64 c.chart.to, .bool c.busy, .int .i64 c.tries, .int .i64 c.ask.epoch, .int .i64 c.ask.op, .int .u64 c.ask.id, .int .u64 c.ask.amount, .int .i64 c.ask.tx], .agg ClientMsg.none_.enc, .c (.bool false)], h2) : Option (V × Heap)) = some (.tup [.agg cs', .agg ClientMsg.none_.enc, .c (.bool false)], h') ∧ On h h' ∧ Client.RI h' cs' c fq ∧ Fre h fq := ⟨_, _, _, rfl, o12, ⟨y, _, rfl, rfl, u2⟩, f⟩
    simp only [run0, run1, run2, run3, run4, noSlot, ownS, ownK, memN, RO.dst, lk, drop, forget, number, Nat.reduceBEq, cut?, splice?, builds, List.length_cons, List.length_nil, List.drop_succ_cons, List.drop_zero, List.take_succ_cons, List.take_zero, List.cons_append, List.nil_append, List.append_nil, List.drop_nil, List.take_nil, Nat.reduceAdd, Nat.reduceLeDiff, Nat.zero_add, Nat.add_zero, ↓reduceIte, Bool.not_true, Bool.not_false, decide_true, decide_false, eq_self, bne_self_eq_false, List.getElem?_cons_zero, List.getElem?_cons_succ, decide_eq_true_eq, Bool.false_eq_true, Bool.true_eq_false, reduceCtorEq, Nat.le_refl, e1, e2, Request.enc]
    clear e1 u u2 w f o1 o2 o12
    cases hbz : c.busy with
    | true =>
      simp only [hbz] at hfin
      (repeat' ((first | (rw [gF_if]; split) | (rw [condC_if]; split) | (rw [pickR_if]; split)) <;> (rename_i hh; (try simp only [Bool.not_eq_true, decide_eq_true_eq] at hh); simp only [hh, run0, run1, run2, run3, run4, noSlot, ownS, ownK, memN, RO.dst, lk, drop, forget, number, Nat.reduceBEq, cut?, splice?, builds, List.length_cons, List.length_nil, List.drop_succ_cons, List.drop_zero, List.take_succ_cons, List.take_zero, List.cons_append, List.nil_append, List.append_nil, List.drop_nil, List.take_nil, Nat.reduceAdd, Nat.reduceLeDiff, Nat.zero_add, Nat.add_zero, ↓reduceIte, Bool.not_true, Bool.not_false, decide_true, decide_false, eq_self, bne_self_eq_false, List.getElem?_cons_zero, List.getElem?_cons_succ, decide_eq_true_eq, Bool.false_eq_true, Bool.true_eq_false, reduceCtorEq, Nat.le_refl, e2, hbz])))
      all_goals exact hfin
    | false =>
      simp only [hbz] at hfin hc
      (repeat' ((first | (rw [gF_if]; split) | (rw [condC_if]; split) | (rw [pickR_if]; split)) <;> (rename_i hh; (try simp only [Bool.not_eq_true, decide_eq_true_eq] at hh); simp only [hh, run0, run1, run2, run3, run4, noSlot, ownS, ownK, memN, RO.dst, lk, drop, forget, number, Nat.reduceBEq, cut?, splice?, builds, List.length_cons, List.length_nil, List.drop_succ_cons, List.drop_zero, List.take_succ_cons, List.take_zero, List.cons_append, List.nil_append, List.append_nil, List.drop_nil, List.take_nil, Nat.reduceAdd, Nat.reduceLeDiff, Nat.zero_add, Nat.add_zero, ↓reduceIte, Bool.not_true, Bool.not_false, decide_true, decide_false, eq_self, bne_self_eq_false, List.getElem?_cons_zero, List.getElem?_cons_succ, decide_eq_true_eq, Bool.false_eq_true, Bool.true_eq_false, reduceCtorEq, Nat.le_refl, e2, hbz])))
      all_goals first
        | exact hfin
        | (exfalso; clear hfin e2; simp_all [inR]; done)
        | (exfalso; clear hfin e2; simp_all [inR]; omega)
  | true =>
    rw [clientAsk_yes hc]
    simp only [Bool.and_eq_true, Bool.not_eq_true', inR, decide_eq_true_eq, bne_iff_ne] at hc
    obtain ⟨hgd, hb, ⟨hq1, hq2⟩, hs⟩ := hc
    rw [hgd] at e2
    have hw := Client.good_seq hgd
    have g1 : ¬ qo < 0 := by omega
    have g2 : ¬ qo > 8 := by omega
    have g3 : (c.seq == 1000000) = false := by simpa using hs
    obtain ⟨h3, em, om⟩ := message_run (Z := Z) (h := ⟨h2.next, h2.next, h2.get⟩) (c := c.asks ⟨qe, qo, qi, qa, qt⟩) hI11 hI16 hLi ⟨y, _, rfl, rfl, u2.up (Fl.ok _) _⟩ (Client.good_chart (c := c) hgd) okq.id
    obtain ⟨_, g, em, hgq, og⟩ := quietly em om
    simp only [Client.asks] at em
    rw [call_run F Z (hI16.lk (g := 161) rfl) _ _ rfl]
    simp only [run0, run1, run2, run3, run4, noSlot, ownS, ownK, memN, RO.dst, lk, drop, forget, number, Nat.reduceBEq, cut?, splice?, builds, List.length_cons, List.length_nil, List.drop_succ_cons, List.drop_zero, List.take_succ_cons, List.take_zero, List.cons_append, List.nil_append, List.append_nil, List.drop_nil, List.take_nil, Nat.reduceAdd, Nat.reduceLeDiff, Nat.zero_add, Nat.add_zero, ↓reduceIte, Bool.not_true, Bool.not_false, decide_true, decide_false, eq_self, bne_self_eq_false, List.getElem?_cons_zero, List.getElem?_cons_succ, decide_eq_true_eq, Bool.false_eq_true, Bool.true_eq_false, reduceCtorEq, Nat.le_refl, e1, e2, Request.enc]
    simp only [run0, run1, run2, run3, run4, noSlot, ownS, ownK, memN, RO.dst, lk, drop, forget, number, Nat.reduceBEq, cut?, splice?, builds, List.length_cons, List.length_nil, List.drop_succ_cons, List.drop_zero, List.take_succ_cons, List.take_zero, List.cons_append, List.nil_append, List.append_nil, List.drop_nil, List.take_nil, Nat.reduceAdd, Nat.reduceLeDiff, Nat.zero_add, Nat.add_zero, ↓reduceIte, Bool.not_true, Bool.not_false, decide_true, decide_false, eq_self, bne_self_eq_false, List.getElem?_cons_zero, List.getElem?_cons_succ, decide_eq_true_eq, Bool.false_eq_true, Bool.true_eq_false, reduceCtorEq, Nat.le_refl, hb, g1, g2, g3, hw, em, hgq, ClientMsg.len, ClientMsg.tak, ClientMsg.drp]
    exact ⟨_, _, _, rfl, o12.trans og, ⟨y, _, rfl, rfl, u2.on (Fl.ok _) og⟩, f⟩
set_option maxHeartbeats 2000000 in
theorem sClientAsk_c (hS : Has F tS01d) (hS11 : Has F tS11) (hS12 : Has F tS12) (hS16 : Has F tS16) (hf : h.floor ≤ h.next) (v : Client.RI h cs c fp) (q : Request) (ok : c.Ok) (sm : c.Small) (okq : q.Ok) :
    ∃ cs' h' fq, call F Z 160 [.agg cs, .agg q.enc] h = some (.tup [.agg cs', .agg (clientAsk c q).2.1.enc, .c (.bool (clientAsk c q).2.2)], h') ∧ On h h' ∧ Client.RI h' cs' (clientAsk c q).1 fq ∧ Fre h fq := by
  obtain ⟨_, h1, _, e1, o1, ⟨y, p', rfl, rfl, u2⟩, f⟩ := l16Copy_c (Z := Z) hS12 hS16 hf v sm
  have e2 := sClientOk_run (Z := Z) hS hS11 hS12 hS16 (Client.okI.on v o1) ok.chart
  obtain ⟨x, p, rfl, rfl, w⟩ := v
  obtain ⟨qe, qo, qi, qa, qt⟩ := q
  cases hc : (c.good && (!c.busy && (inR qo 0 8 && c.seq != 1000000))) with
  | false =>
    rw [clientAsk_no hc]
    rw [call_run F Z (hS16.lk (g := 160) rfl) _ _ rfl]
    have hfin : ∃ cs' h' fq, (some (V.tup [.agg [.int .i64 c.id, .int .i64 c.seq, .int .i64 c.chart.epoch, y, .bool c.chart.moving, .int .u64 c.chart.lo, .int .i64 c.chart.to, .bool c.busy, .int .i64 c.tries, .int .i64 c.ask.epoch, .int .i64 c.ask.op, .int .u64 c.ask.id, .int .u64 c.ask.amount, .int .i64 c.ask.tx], .agg ClientMsg.none_.enc, .c (.bool false)], h1) : Option (V × Heap)) = some (.tup [.agg cs', .agg ClientMsg.none_.enc, .c (.bool false)], h') ∧ On h h' ∧ Client.RI h' cs' c fq ∧ Fre h fq := ⟨_, _, _, rfl, o1, ⟨y, _, rfl, rfl, u2⟩, f⟩
    simp only [run0, run1, run2, run3, run4, noSlot, ownS, ownK, memN, RO.dst, lk, drop, forget, number, Nat.reduceBEq, cut?, splice?, builds, List.length_cons, List.length_nil, List.drop_succ_cons, List.drop_zero, List.take_succ_cons, List.take_zero, List.cons_append, List.nil_append, List.append_nil, List.drop_nil, List.take_nil, Nat.reduceAdd, Nat.reduceLeDiff, Nat.zero_add, Nat.add_zero, ↓reduceIte, Bool.not_true, Bool.not_false, decide_true, decide_false, eq_self, bne_self_eq_false, List.getElem?_cons_zero, List.getElem?_cons_succ, decide_eq_true_eq, Bool.false_eq_true, Bool.true_eq_false, reduceCtorEq, Nat.le_refl, e1, e2, Request.enc, l01In_run hS]
    clear e1 u2 w f o1
    cases hbz : c.busy with
    | true =>
      simp only [hbz] at hfin
      (repeat' ((first | (rw [gF_if]; split) | (rw [condC_if]; split) | (rw [pickR_if]; split)) <;> (rename_i hh; (try simp only [Bool.not_eq_true, decide_eq_true_eq] at hh); simp only [hh, run0, run1, run2, run3, run4, noSlot, ownS, ownK, memN, RO.dst, lk, drop, forget, number, Nat.reduceBEq, cut?, splice?, builds, List.length_cons, List.length_nil, List.drop_succ_cons, List.drop_zero, List.take_succ_cons, List.take_zero, List.cons_append, List.nil_append, List.append_nil, List.drop_nil, List.take_nil, Nat.reduceAdd, Nat.reduceLeDiff, Nat.zero_add, Nat.add_zero, ↓reduceIte, Bool.not_true, Bool.not_false, decide_true, decide_false, eq_self, bne_self_eq_false, List.getElem?_cons_zero, List.getElem?_cons_succ, decide_eq_true_eq, Bool.false_eq_true, Bool.true_eq_false, reduceCtorEq, Nat.le_refl, e2, hbz, l01In_run hS])))
      all_goals exact hfin
    | false =>
      simp only [hbz] at hfin hc
      (repeat' ((first | (rw [gF_if]; split) | (rw [condC_if]; split) | (rw [pickR_if]; split)) <;> (rename_i hh; (try simp only [Bool.not_eq_true, decide_eq_true_eq] at hh); simp only [hh, run0, run1, run2, run3, run4, noSlot, ownS, ownK, memN, RO.dst, lk, drop, forget, number, Nat.reduceBEq, cut?, splice?, builds, List.length_cons, List.length_nil, List.drop_succ_cons, List.drop_zero, List.take_succ_cons, List.take_zero, List.cons_append, List.nil_append, List.append_nil, List.drop_nil, List.take_nil, Nat.reduceAdd, Nat.reduceLeDiff, Nat.zero_add, Nat.add_zero, ↓reduceIte, Bool.not_true, Bool.not_false, decide_true, decide_false, eq_self, bne_self_eq_false, List.getElem?_cons_zero, List.getElem?_cons_succ, decide_eq_true_eq, Bool.false_eq_true, Bool.true_eq_false, reduceCtorEq, Nat.le_refl, e2, hbz, l01In_run hS])))
      all_goals first
        | exact hfin
        | (exfalso; clear hfin e2; simp_all; done)
        | (exfalso; clear hfin e2; simp_all [inR]; done)
  | true =>
    rw [clientAsk_yes hc]
    simp only [Bool.and_eq_true, Bool.not_eq_true', bne_iff_ne] at hc
    obtain ⟨hgd, hb, hq1, hs⟩ := hc
    rw [hgd] at e2
    have hw := Client.good_seq hgd
    have g3 : (c.seq == 1000000) = false := by simpa using hs
    obtain ⟨h3, em, om⟩ := l16Msg_run (Z := Z) (h := ⟨h1.next, h1.next, h1.get⟩) (c := c.asks ⟨qe, qo, qi, qa, qt⟩) hS hS11 hS12 hS16 ⟨y, _, rfl, rfl, u2.up (Fl.ok _) _⟩ ok.chart (Client.good_chart (c := c) hgd) okq.id
    obtain ⟨_, g, em, hgq, og⟩ := quietly em om
    simp only [Client.asks] at em
    rw [call_run F Z (hS16.lk (g := 160) rfl) _ _ rfl]
    simp only [run0, run1, run2, run3, run4, noSlot, ownS, ownK, memN, RO.dst, lk, drop, forget, number, Nat.reduceBEq, cut?, splice?, builds, List.length_cons, List.length_nil, List.drop_succ_cons, List.drop_zero, List.take_succ_cons, List.take_zero, List.cons_append, List.nil_append, List.append_nil, List.drop_nil, List.take_nil, Nat.reduceAdd, Nat.reduceLeDiff, Nat.zero_add, Nat.add_zero, ↓reduceIte, Bool.not_true, Bool.not_false, decide_true, decide_false, eq_self, bne_self_eq_false, List.getElem?_cons_zero, List.getElem?_cons_succ, decide_eq_true_eq, Bool.false_eq_true, Bool.true_eq_false, reduceCtorEq, Nat.le_refl, e1, e2, Request.enc]
    simp only [run0, run1, run2, run3, run4, noSlot, ownS, ownK, memN, RO.dst, lk, drop, forget, number, Nat.reduceBEq, cut?, splice?, builds, List.length_cons, List.length_nil, List.drop_succ_cons, List.drop_zero, List.take_succ_cons, List.take_zero, List.cons_append, List.nil_append, List.append_nil, List.drop_nil, List.take_nil, Nat.reduceAdd, Nat.reduceLeDiff, Nat.zero_add, Nat.add_zero, ↓reduceIte, Bool.not_true, Bool.not_false, decide_true, decide_false, eq_self, bne_self_eq_false, List.getElem?_cons_zero, List.getElem?_cons_succ, decide_eq_true_eq, Bool.false_eq_true, Bool.true_eq_false, reduceCtorEq, Nat.le_refl, l01In_run hS, hq1, hb, g3, hw, em, hgq, ClientMsg.len, ClientMsg.tak, ClientMsg.drp]
    exact ⟨_, _, _, rfl, o1.trans og, ⟨y, _, rfl, rfl, u2.on (Fl.ok _) og⟩, f⟩
end
end Go.Proofs.Ytlbagejkjkfkjaa.A
/- The compact code of some functions: laws.szReply, laws.toReply, laws.eqReply, laws.markReply. -/
namespace Go.Proofs.Ytlbagejkjkfkjaa.A
open Go
/-- laws.szReply -/
def r350 : RF :=
 ⟨2, [.tmp 4],
 .seq (.reg [⟨none, .locb 2 (.t 0)⟩,
  ⟨none, .mov 4 (.k (.int .i64 0))⟩])
 (.seq (.reg [⟨none, .fad 5 2 4⟩,
  ⟨none, .load 6 5 5 true⟩,
  ⟨none, .mov 7 (.t 1)⟩,
  ⟨none, .call (some 8) 67 [(.t 6), (.t 7)] false⟩,
  ⟨none, .mov 1 (.t 8)⟩])
 (.seq (.seq (.reg [⟨none, .mov 9 (.t 1)⟩,
   ⟨none, .bin 10 .lss (.t 9) (.k (.int .i64 0))⟩])
  (.cond (.t 10)
  (.seq (.reg [⟨none, .mov 4 (.k (.int .i64 (-1)))⟩])
   (.ret))
  (.skip)))
 (.seq (.reg [⟨none, .mov 11 (.t 1)⟩,
  ⟨none, .mov 4 (.t 11)⟩])
 (.ret))))⟩
/-- laws.toReply -/
def r351 : RF :=
 ⟨1, [.cell 2 9 true],
 .seq (.reg [⟨none, .locb 1 (.t 0)⟩,
  ⟨none, .loc 2 [.int .i64 0, .int .i64 0, .int .i64 0, .int .u64 0, .int .i64 0, .nil, .bool false, .int .u64 0, .int .i64 0]⟩])
 (.seq (.reg [⟨none, .loc 3 [.int .i64 0, .int .i64 0, .int .i64 0, .int .u64 0, .int .i64 0, .nil, .bool false, .int .u64 0, .int .i64 0]⟩])
 (.seq (.reg [⟨none, .fad 4 1 0⟩,
  ⟨none, .load 5 4 1 false⟩,
  ⟨none, .fad 6 3 0⟩,
  ⟨none, .store 6 1 (.t 5)⟩])
 (.seq (.reg [⟨none, .fad 7 1 1⟩,
  ⟨none, .load 8 7 1 false⟩,
  ⟨none, .fad 9 3 1⟩,
  ⟨none, .store 9 1 (.t 8)⟩])
 (.seq (.reg [⟨none, .fad 10 1 2⟩,
  ⟨none, .load 11 10 1 false⟩,
  ⟨none, .fad 12 3 2⟩,
  ⟨none, .store 12 1 (.t 11)⟩])
 (.seq (.reg [⟨none, .fad 13 1 3⟩,
  ⟨none, .load 14 13 1 false⟩,
  ⟨none, .fad 15 3 3⟩,
  ⟨none, .store 15 1 (.t 14)⟩])
 (.seq (.reg [⟨none, .fad 16 1 4⟩,
  ⟨none, .load 17 16 5 true⟩,
  ⟨none, .call (some 18) 68 [(.t 17)] false⟩,
  ⟨none, .fad 19 3 4⟩,
  ⟨none, .store 19 5 (.t 18)⟩])
 (.seq (.reg [⟨none, .load 20 3 9 true⟩,
  ⟨none, .store 2 9 (.t 20)⟩])
 (.ret))))))))⟩
/-- laws.eqReply -/
def r352 : RF :=
 ⟨2, [.tmp 4],
 .seq (.reg [⟨none, .locb 2 (.t 0)⟩,
  ⟨none, .locb 3 (.t 1)⟩,
  ⟨none, .mov 4 (.k (.bool false))⟩])
 (.seq (.seq (.reg [⟨none, .fad 5 2 0⟩,
   ⟨none, .load 6 5 1 false⟩,
   ⟨none, .fad 7 3 0⟩,
   ⟨none, .load 8 7 1 false⟩,
   ⟨none, .bin 9 .neq (.t 6) (.t 8)⟩])
  (.cond (.t 9)
  (.seq (.reg [⟨none, .mov 4 (.k (.bool false))⟩])
   (.ret))
  (.skip)))
 (.seq (.seq (.reg [⟨none, .fad 10 2 1⟩,
   ⟨none, .load 11 10 1 false⟩,
   ⟨none, .fad 12 3 1⟩,
   ⟨none, .load 13 12 1 false⟩,
   ⟨none, .bin 14 .neq (.t 11) (.t 13)⟩])
  (.cond (.t 14)
  (.seq (.reg [⟨none, .mov 4 (.k (.bool false))⟩])
   (.ret))
  (.skip)))
 (.seq (.seq (.reg [⟨none, .fad 15 2 2⟩,
   ⟨none, .load 16 15 1 false⟩,
   ⟨none, .fad 17 3 2⟩,
   ⟨none, .load 18 17 1 false⟩,
   ⟨none, .bin 19 .neq (.t 16) (.t 18)⟩])
  (.cond (.t 19)
  (.seq (.reg [⟨none, .mov 4 (.k (.bool false))⟩])
   (.ret))
  (.skip)))
 (.seq (.seq (.reg [⟨none, .fad 20 2 3⟩,
   ⟨none, .load 21 20 1 false⟩,
   ⟨none, .fad 22 3 3⟩,
   ⟨none, .load 23 22 1 false⟩,
   ⟨none, .bin 24 .neq (.t 21) (.t 23)⟩])
  (.cond (.t 24)
  (.seq (.reg [⟨none, .mov 4 (.k (.bool false))⟩])
   (.ret))
  (.skip)))
 (.seq (.seq (.reg [⟨none, .fad 25 2 4⟩,
   ⟨none, .load 26 25 5 true⟩,
   ⟨none, .fad 27 3 4⟩,
   ⟨none, .load 28 27 5 true⟩,
   ⟨none, .call (some 29) 71 [(.t 26), (.t 28)] false⟩,
   ⟨none, .not 30 (.t 29)⟩])
  (.cond (.t 30)
  (.seq (.reg [⟨none, .mov 4 (.k (.bool false))⟩])
   (.ret))
  (.skip)))
 (.seq (.reg [⟨none, .mov 4 (.k (.bool true))⟩])
 (.ret)))))))⟩
/-- laws.markReply -/
def r353 : RF :=
 ⟨2, [.tmp 4],
 .seq (.reg [⟨none, .locb 2 (.t 0)⟩,
  ⟨none, .mov 4 (.k (.int .i64 0))⟩])
 (.seq (.reg [⟨none, .fad 5 2 4⟩,
  ⟨none, .load 6 5 5 true⟩,
  ⟨none, .mov 7 (.t 1)⟩,
  ⟨none, .call (some 8) 94 [(.t 6), (.t 7)] false⟩,
  ⟨none, .mov 1 (.t 8)⟩])
 (.seq (.reg [⟨none, .mov 9 (.t 1)⟩,
  ⟨none, .mov 4 (.t 9)⟩])
 (.ret)))⟩
/-- The functions of this text, with their numbers. -/
def tLReply : List (Nat × RF) := [(350, r350), (351, r351), (352, r352), (353, r353)]
end Go.Proofs.Ytlbagejkjkfkjaa.A
/- The data of a Reply with its memory, and what its converters compute. -/
namespace Go.Proofs.Ytlbagejkjkfkjaa.A
open Go
set_option linter.unusedSimpArgs false
set_option linter.unusedVariables false
structure Reply where
  client : Int
  seq : Int
  code : Int
  value : Int
  chart : Chart
  deriving DecidableEq
def Reply.RL : Rel Reply := fun h cs t fp => ∃ x1 p1, cs = [.int .i64 t.client, .int .i64 t.seq, .int .i64 t.code, .int .u64 t.value, .int .i64 t.chart.epoch, x1, .bool t.chart.moving, .int .u64 t.chart.lo, .int .i64 t.chart.to] ∧ fp = p1 ∧ SlR 8 (Fl Range.enc) h x1 t.chart.ranges p1
theorem Reply.okL : RelOk Reply.RL where
  lt := by
    rintro h cs t fp ⟨x1, p1, rfl, rfl, w1⟩ id hid
    exact w1.lt (Fl.ok _) id hid
  mv := by
    rintro h h' cs t fp ⟨x1, p1, rfl, rfl, w1⟩ hn hg
    exact ⟨x1, _, rfl, rfl, w1.mv (Fl.ok _) hn hg⟩
def Reply.RI : Rel Reply := fun h cs t fp => ∃ x1 p1, cs = [.int .i64 t.client, .int .i64 t.seq, .int .i64 t.code, .int .u64 t.value, .int .i64 t.chart.epoch, x1, .bool t.chart.moving, .int .u64 t.chart.lo, .int .i64 t.chart.to] ∧ fp = p1 ∧ SlR 7 (Fl Range.enc) h x1 t.chart.ranges p1
theorem Reply.okI : RelOk Reply.RI where
  lt := by
    rintro h cs t fp ⟨x1, p1, rfl, rfl, w1⟩ id hid
    exact w1.lt (Fl.ok _) id hid
  mv := by
    rintro h h' cs t fp ⟨x1, p1, rfl, rfl, w1⟩ hn hg
    exact ⟨x1, _, rfl, rfl, w1.mv (Fl.ok _) hn hg⟩
theorem Reply.lenL {h : Heap} {cs : List Cell} {t : Reply} {fp : List Nat} (v : Reply.RL h cs t fp) : cs.length = 9 ∧ cs.take 9 = cs ∧ cs.drop 9 = [] := by
  obtain ⟨x1, p1, rfl, _⟩ := v
  exact ⟨rfl, rfl, rfl⟩
theorem Reply.lenI {h : Heap} {cs : List Cell} {t : Reply} {fp : List Nat} (v : Reply.RI h cs t fp) : cs.length = 9 ∧ cs.take 9 = cs ∧ cs.drop 9 = [] := by
  obtain ⟨x1, p1, rfl, _⟩ := v
  exact ⟨rfl, rfl, rfl⟩
namespace Reply
/-- The numbers are those of the machine. -/
structure Ok (t : Reply) : Prop where
  client : -9223372036854775808 ≤ t.client ∧ t.client ≤ 9223372036854775807
  seq : -9223372036854775808 ≤ t.seq ∧ t.seq ≤ 9223372036854775807
  code : -9223372036854775808 ≤ t.code ∧ t.code ≤ 9223372036854775807
  value : 0 ≤ t.value ∧ t.value ≤ 18446744073709551615
  chart : t.chart.Ok
def Small (t : Reply) : Prop := t.chart.Small
def wt (t : Reply) : Int := t.chart.wt
def marked (t : Reply) (k : Int) : Reply := { t with chart := t.chart.marked (k) }
theorem wt_nn (t : Reply) : 0 ≤ t.wt := by
  have := t.chart.wt_nn
  simp only [wt]; omega
theorem wt_le {t : Reply} (sm : t.Small) : t.wt ≤ 3145728 := by
  unfold Small at sm
  have := Chart.wt_le sm
  simp only [wt]; omega
end Reply
theorem Wf.isReply {h : Heap} {n : Nat} {cs : List Cell} (w : Wf h (n + 5) shReply cs) : ∃ t fp, Reply.RL h cs t fp ∧ t.Ok := by
  obtain ⟨_, _, rfl, _, ⟨i1, rfl, j1⟩, _, _, rfl, _, ⟨i2, rfl, j2⟩, _, _, rfl, _, ⟨i3, rfl, j3⟩, _, _, rfl, _, ⟨i4, rfl, j4⟩, _, _, rfl, _, ⟨_, _, rfl, _, ⟨i5, rfl, j5⟩, _, _, rfl, _, m6, _, _, rfl, _, ⟨b7, rfl⟩, _, _, rfl, _, ⟨i8, rfl, j8⟩, _, _, rfl, _, ⟨i9, rfl, j9⟩, rfl⟩, rfl⟩ := w
  obtain ⟨x1, l1, p1, rfl, w1, o1⟩ := Wf.isRangeS' m6
  exact ⟨⟨i1, i2, i3, i4, ⟨i5, l1, b7, i8, i9⟩⟩, _, ⟨x1, _, rfl, rfl, w1⟩, ⟨wfI j1, wfI j2, wfI j3, wfU j4, ⟨wfI j5, o1, wfU j8, wfI j9⟩⟩⟩
section
variable {F : Nat → Option RF} {Z : CallF} {h : Heap} {cs cs' : List Cell} {t u : Reply} {fp fq : List Nat}
theorem szReply_c (hLReply : Has F tLReply) (hLChart : Has F tLChart) (hLRange : Has F tLRange) (v : Reply.RL h cs t fp) (left : Int) (h1 : 0 ≤ left) (h2 : left ≤ 1048576) : ∃ r, call F Z 350 [.agg cs, .c (.int .i64 left)] h = some (.c (.int .i64 r), h) ∧ r ≤ left ∧ (0 ≤ r → t.Small) := by
  obtain ⟨x1, p1, rfl, rfl, w1⟩ := v
  rw [call_run F Z (hLReply.lk (g := 350) rfl) _ _ rfl]
  simp only [run0, run1, run2, run3, run4, noSlot, ownS, ownK, memN, RO.dst, lk, drop, forget, number, Nat.reduceBEq, cut?, splice?, builds, List.length_cons, List.length_nil, List.drop_succ_cons, List.drop_zero, List.take_succ_cons, List.take_zero, List.cons_append, List.nil_append, List.append_nil, List.drop_nil, List.take_nil, Nat.reduceAdd, Nat.reduceLeDiff, Nat.zero_add, Nat.add_zero, ↓reduceIte, Bool.not_true, Bool.not_false, decide_true, decide_false, eq_self, bne_self_eq_false, List.getElem?_cons_zero, List.getElem?_cons_succ, decide_eq_true_eq, Bool.false_eq_true, Bool.true_eq_false, reduceCtorEq, Nat.le_refl]
  obtain ⟨l0, s0, a0, b0⟩ := szChart_c (Z := Z) hLChart hLRange (⟨x1, _, rfl, rfl, w1⟩ : Chart.RL _ _ _ _) left (by omega) (by omega)
  simp only [run0, run1, run2, run3, run4, noSlot, ownS, ownK, memN, RO.dst, lk, drop, forget, number, Nat.reduceBEq, cut?, splice?, builds, List.length_cons, List.length_nil, List.drop_succ_cons, List.drop_zero, List.take_succ_cons, List.take_zero, List.cons_append, List.nil_append, List.append_nil, List.drop_nil, List.take_nil, Nat.reduceAdd, Nat.reduceLeDiff, Nat.zero_add, Nat.add_zero, ↓reduceIte, Bool.not_true, Bool.not_false, decide_true, decide_false, eq_self, bne_self_eq_false, List.getElem?_cons_zero, List.getElem?_cons_succ, decide_eq_true_eq, Bool.false_eq_true, Bool.true_eq_false, reduceCtorEq, Nat.le_refl, s0]
  by_cases n0 : l0 < 0
  · simp only [run0, run1, run2, run3, run4, noSlot, ownS, ownK, memN, RO.dst, lk, drop, forget, number, Nat.reduceBEq, cut?, splice?, builds, List.length_cons, List.length_nil, List.drop_succ_cons, List.drop_zero, List.take_succ_cons, List.take_zero, List.cons_append, List.nil_append, List.append_nil, List.drop_nil, List.take_nil, Nat.reduceAdd, Nat.reduceLeDiff, Nat.zero_add, Nat.add_zero, ↓reduceIte, Bool.not_true, Bool.not_false, decide_true, decide_false, eq_self, bne_self_eq_false, List.getElem?_cons_zero, List.getElem?_cons_succ, decide_eq_true_eq, Bool.false_eq_true, Bool.true_eq_false, reduceCtorEq, Nat.le_refl, n0]
    exact ⟨_, rfl, by omega, by omega⟩
  simp only [run0, run1, run2, run3, run4, noSlot, ownS, ownK, memN, RO.dst, lk, drop, forget, number, Nat.reduceBEq, cut?, splice?, builds, List.length_cons, List.length_nil, List.drop_succ_cons, List.drop_zero, List.take_succ_cons, List.take_zero, List.cons_append, List.nil_append, List.append_nil, List.drop_nil, List.take_nil, Nat.reduceAdd, Nat.reduceLeDiff, Nat.zero_add, Nat.add_zero, ↓reduceIte, Bool.not_true, Bool.not_false, decide_true, decide_false, eq_self, bne_self_eq_false, List.getElem?_cons_zero, List.getElem?_cons_succ, decide_eq_true_eq, Bool.false_eq_true, Bool.true_eq_false, reduceCtorEq, Nat.le_refl, n0]
  exact ⟨_, rfl, by omega, fun _ => b0 (by omega)⟩
theorem toReply_c (hLReply : Has F tLReply) (hLChart : Has F tLChart) (hLRange : Has F tLRange) (hf : h.floor ≤ h.next) (v : Reply.RL h cs t fp) (sm : t.Small) : ∃ cs' h' fq, call F Z 351 [.agg cs] h = some (.agg cs', h') ∧ On h h' ∧ Reply.RI h' cs' t fq ∧ Fre h fq := by
  obtain ⟨x1, p1, rfl, rfl, w1⟩ := v
  have sm0 := sm
  obtain ⟨_, g0, _, e0, o0, ⟨y1, q1, rfl, rfl, u1⟩, r0⟩ := toChart_c (Z := Z) hLChart hLRange hf (⟨x1, _, rfl, rfl, w1⟩ : Chart.RL _ _ _ _) sm0
  rw [call_run F Z (hLReply.lk (g := 351) rfl) _ _ rfl]
  simp only [run0, run1, run2, run3, run4, noSlot, ownS, ownK, memN, RO.dst, lk, drop, forget, number, Nat.reduceBEq, cut?, splice?, builds, List.length_cons, List.length_nil, List.drop_succ_cons, List.drop_zero, List.take_succ_cons, List.take_zero, List.cons_append, List.nil_append, List.append_nil, List.drop_nil, List.take_nil, Nat.reduceAdd, Nat.reduceLeDiff, Nat.zero_add, Nat.add_zero, ↓reduceIte, Bool.not_true, Bool.not_false, decide_true, decide_false, eq_self, bne_self_eq_false, List.getElem?_cons_zero, List.getElem?_cons_succ, decide_eq_true_eq, Bool.false_eq_true, Bool.true_eq_false, reduceCtorEq, Nat.le_refl, e0]
  exact ⟨_, _, _, rfl, o0, ⟨y1, _, rfl, rfl, u1⟩, r0⟩
set_option maxHeartbeats 1000000 in
theorem eqReply_r (hLReply : Has F tLReply) (hLChart : Has F tLChart) (hLRange : Has F tLRange) (v : Reply.RI h cs t fp) (v' : Reply.RI h cs' u fq) : call F Z 352 [.agg cs, .agg cs'] h = some (.c (.bool (decide (t = u))), h) := by
  obtain ⟨x1, p1, rfl, rfl, w1⟩ := v
  obtain ⟨x1', p1', rfl, rfl, w1'⟩ := v'
  obtain ⟨client1, seq1, code1, value1, chart1⟩ := t
  obtain ⟨client2, seq2, code2, value2, chart2⟩ := u
  have e0 := eqChart_r (Z := Z) hLChart hLRange (⟨x1, _, rfl, rfl, w1⟩ : Chart.RI h _ chart1 _) (⟨x1', _, rfl, rfl, w1'⟩ : Chart.RI h _ chart2 _)
  clear w1 w1'
  rw [call_run F Z (hLReply.lk (g := 352) rfl) _ _ rfl]
  simp only [run0, run1, run2, run3, run4, noSlot, ownS, ownK, memN, RO.dst, lk, drop, forget, number, Nat.reduceBEq, cut?, splice?, builds, List.length_cons, List.length_nil, List.drop_succ_cons, List.drop_zero, List.take_succ_cons, List.take_zero, List.cons_append, List.nil_append, List.append_nil, List.drop_nil, List.take_nil, Nat.reduceAdd, Nat.reduceLeDiff, Nat.zero_add, Nat.add_zero, ↓reduceIte, Bool.not_true, Bool.not_false, decide_true, decide_false, eq_self, bne_self_eq_false, List.getElem?_cons_zero, List.getElem?_cons_succ, decide_eq_true_eq, Bool.false_eq_true, Bool.true_eq_false, reduceCtorEq, Nat.le_refl, e0]
  (repeat' ((first | (rw [gF_if]; split) | (rw [condC_if]; split) | (rw [pickR_if]; split)) <;> (rename_i hh; (try simp only [Bool.not_eq_true, decide_eq_true_eq] at hh); simp only [hh, run0, run1, run2, run3, run4, noSlot, ownS, ownK, memN, RO.dst, lk, drop, forget, number, Nat.reduceBEq, cut?, splice?, builds, List.length_cons, List.length_nil, List.drop_succ_cons, List.drop_zero, List.take_succ_cons, List.take_zero, List.cons_append, List.nil_append, List.append_nil, List.drop_nil, List.take_nil, Nat.reduceAdd, Nat.reduceLeDiff, Nat.zero_add, Nat.add_zero, ↓reduceIte, Bool.not_true, Bool.not_false, decide_true, decide_false, eq_self, bne_self_eq_false, List.getElem?_cons_zero, List.getElem?_cons_succ, decide_eq_true_eq, Bool.false_eq_true, Bool.true_eq_false, reduceCtorEq, Nat.le_refl, e0]))) <;> clear e0 <;> refine fin_bool ?_ <;> simp_all <;> (try (intros; omega))
theorem markReply_r (hLReply : Has F tLReply) (hLChart : Has F tLChart) (hLRange : Has F tLRange) (v : Reply.RI h cs t fp) (nd : fp.Nodup) (hlo : ∀ id, id ∈ fp → h.floor ≤ id) (k : Int) (h1 : 0 ≤ k) (h2 : k + t.wt ≤ 9200000000000000000) : ∃ h', call F Z 353 [.agg cs, .c (.int .i64 k)] h = some (.c (.int .i64 (k + t.wt)), h') ∧ Mk h h' fp ∧ Reply.RI h' cs (t.marked k) fp := by
  obtain ⟨x1, p1, rfl, rfl, w1⟩ := v
  simp only [Reply.wt] at h2 ⊢
  obtain ⟨h', e0, m0, ⟨y1, q1, uc, rfl, u1⟩⟩ := markChart_r (Z := Z) hLChart hLRange (⟨x1, _, rfl, rfl, w1⟩ : Chart.RI _ _ _ _) nd hlo k h1 h2
  rw [call_run F Z (hLReply.lk (g := 353) rfl) _ _ rfl]
  simp only [run0, run1, run2, run3, run4, noSlot, ownS, ownK, memN, RO.dst, lk, drop, forget, number, Nat.reduceBEq, cut?, splice?, builds, List.length_cons, List.length_nil, List.drop_succ_cons, List.drop_zero, List.take_succ_cons, List.take_zero, List.cons_append, List.nil_append, List.append_nil, List.drop_nil, List.take_nil, Nat.reduceAdd, Nat.reduceLeDiff, Nat.zero_add, Nat.add_zero, ↓reduceIte, Bool.not_true, Bool.not_false, decide_true, decide_false, eq_self, bne_self_eq_false, List.getElem?_cons_zero, List.getElem?_cons_succ, decide_eq_true_eq, Bool.false_eq_true, Bool.true_eq_false, reduceCtorEq, Nat.le_refl, e0]
  refine ⟨_, rfl, m0, ⟨y1, _, ?_, rfl, u1⟩⟩
  simp_all [Reply.marked, Chart.marked]
end
end Go.Proofs.Ytlbagejkjkfkjaa.A
/- A client hears a reply. -/
namespace Go.Proofs.Ytlbagejkjkfkjaa.A
open Go
set_option linter.unusedSimpArgs false
set_option linter.unusedVariables false
def Client.cells (c : Client) (y : Cell) : List Cell := [.int .i64 c.id, .int .i64 c.seq, .int .i64 c.chart.epoch, y, .bool c.chart.moving, .int .u64 c.chart.lo, .int .i64 c.chart.to, .bool c.busy, .int .i64 c.tries, .int .i64 c.ask.epoch, .int .i64 c.ask.op, .int .u64 c.ask.id, .int .u64 c.ask.amount, .int .i64 c.ask.tx]
def Client.takes (c : Client) (r : Reply) : Client := bif r.chart.good && decide (c.chart.epoch < r.chart.epoch) then { c with chart := r.chart } else c
def Client.off (c : Client) (r : Reply) : Bool := (r.client != c.id) || (!c.busy || (r.seq != c.seq))
def clientHear (c : Client) (r : Reply) : Client × Int :=
  bif c.good then (bif c.off r then (c.takes r, -2) else bif inR r.code 8 10 then (c.takes r, -1) else ((c.takes r).stop, bif decide (r.code < 0) then 11 else r.code)) else (c, -3)
theorem Client.takes_small {c : Client} (sm : c.Small) {r : Reply} (sr : r.Small) : (c.takes r).Small := by
  unfold Client.takes
  cases (r.chart.good && decide (c.chart.epoch < r.chart.epoch))
  · exact sm
  · exact sr
theorem clientHear_small {c : Client} (sm : c.Small) {r : Reply} (sr : r.Small) : (clientHear c r).1.Small := by
  have h := Client.takes_small sm sr
  unfold clientHear
  cases c.good <;> simp only [cond_true, cond_false]
  · exact sm
  cases c.off r <;> simp only [cond_true, cond_false]
  · cases inR r.code 8 10 <;> simp only [cond_true, cond_false]
    · exact h
    · exact h
  · exact h
section
variable {c : Client} {r : Reply}
theorem hear_bad (h : c.good = false) : clientHear c r = (c, -3) := by simp [clientHear, h]
theorem hear_off (h : c.good = true) (h2 : c.off r = true) : clientHear c r = (c.takes r, -2) := by simp [clientHear, h, h2]
theorem hear_again (h : c.good = true) (h2 : c.off r = false) (h3 : inR r.code 8 10 = true) : clientHear c r = (c.takes r, -1) := by simp [clientHear, h, h2, h3]
theorem hear_err (h : c.good = true) (h2 : c.off r = false) (h3 : inR r.code 8 10 = false) (h4 : r.code < 0) : clientHear c r = ((c.takes r).stop, 11) := by simp [clientHear, h, h2, h3, h4]
theorem hear_done (h : c.good = true) (h2 : c.off r = false) (h3 : inR r.code 8 10 = false) (h4 : ¬ r.code < 0) : clientHear c r = ((c.takes r).stop, r.code) := by simp [clientHear, h, h2, h3, h4]
theorem Client.takes_id : (c.takes r).id = c.id ∧ (c.takes r).seq = c.seq ∧ (c.takes r).busy = c.busy := by
  unfold Client.takes
  cases (r.chart.good && decide (c.chart.epoch < r.chart.epoch)) <;> exact ⟨rfl, rfl, rfl⟩
end
end Go.Proofs.Ytlbagejkjkfkjaa.A
