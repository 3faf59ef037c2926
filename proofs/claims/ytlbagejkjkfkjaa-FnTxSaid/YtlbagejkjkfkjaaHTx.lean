/- FnTx: the statement, from the law of the abstract run. No condition. -/
import Derived.Test.YtlbagejkjkfkjaaHCTx2
import Derived.Test.YtlbagejkjkfkjaaB6
import Derived.Test.YtlbagejkjkfkjaaProg
import Derived.Test.YtlbagejkjkfkjaaRows
import Derived.ProofKit
import Derived.OpenShut
import Derived.ShutString
import Derived.ChangeOld
import Derived.Below
import Derived.SizedLaws
/- The functions that FnTx reaches: the program's code against the compact code, entry by entry. -/
namespace Go.Proofs.Ytlbagejkjkfkjaa.A.Tx
open Go
def c : CC where
  T := [(3, ⟨1, 8, false, some [.int .i64 0], (.int .i64)⟩),
    (4, ⟨1, 1, false, some [.bool false], .bool⟩),
    (5, ⟨1, 1, false, some [.int .u8 0], (.int .u8)⟩),
    (22, ⟨1, 24, false, some [.nil], (.slice 5 19)⟩),
    (24, ⟨1, 8, false, some [.int .u64 0], (.int .u64)⟩),
    (26, ⟨10, 56, true, some [.int .i64 0, .int .u64 0, .int .u64 0, .int .u64 0, .int .i64 0, .bool false, .bool false, .bool false, .bool false, .int .i64 0], (.struct [(0, 1, false), (1, 1, false), (2, 1, false), (3, 1, false), (4, 1, false), (5, 1, false), (6, 1, false), (7, 1, false), (8, 1, false), (9, 1, false)])⟩),
    (27, ⟨1, 24, false, some [.nil], (.slice 148 5)⟩),
    (30, ⟨1, 24, false, some [.nil], (.slice 4 4)⟩),
    (35, ⟨1, 24, false, some [.nil], (.slice 38 3)⟩),
    (38, ⟨5, 40, true, some [.int .i64 0, .int .i64 0, .int .u64 0, .int .u64 0, .int .i64 0], (.struct [(0, 1, false), (1, 1, false), (2, 1, false), (3, 1, false), (4, 1, false)])⟩),
    (129, ⟨1, 24, false, some [.nil], (.slice 3 15)⟩),
    (133, ⟨1, 24, false, some [.nil], (.slice 24 13)⟩),
    (148, ⟨3, 24, true, some [.int .i64 0, .int .i64 0, .int .i64 0], (.struct [(0, 1, false), (1, 1, false), (2, 1, false)])⟩),
    (195, ⟨3, 40, true, some [.nil, .int .i64 0, .int .i64 0], (.struct [(0, 1, false), (1, 1, false), (2, 1, false)])⟩),
    (240, ⟨1, 8, false, some [.int .u64 0], (.int .u64)⟩)]
  F := [(3, 143), (15, 144), (16, 145), (17, 60), (18, 15), (19, 18), (20, 47), (77, 194), (78, 195), (79, 196), (80, 28), (81, 38), (82, 37), (83, 29), (94, 5), (143, 235), (144, 20), (145, 236), (146, 237), (147, 59), (148, 238), (149, 239), (150, 240), (151, 30), (189, 14), (190, 263), (191, 264), (192, 35), (193, 32), (194, 24)]
  eqT := [(26, [.i .i64, .i .u64, .i .u64, .i .u64, .i .i64, .b, .b, .b, .b, .i .i64])]
  adds := []
def F : Nat → Option RF := lk (tI14 ++ tLaws ++ tS01d ++ tS10 ++ tS14 ++ tWFnTx)
def tab : List (Nat × FuncId × RF) := [(143, 3, r143), (144, 15, r144), (145, 16, r145), (60, 17, r60), (15, 18, r15), (18, 19, r18), (47, 20, r47), (194, 77, r194), (195, 78, r195), (196, 79, r196), (28, 80, r28), (38, 81, r38), (37, 82, r37), (29, 83, r29), (235, 143, r235), (20, 144, r20), (236, 145, r236), (237, 146, r237), (59, 147, r59), (238, 148, r238), (239, 149, r239), (240, 150, r240), (30, 151, r30), (14, 189, r14), (263, 190, r263), (264, 191, r264), (35, 192, r35), (32, 193, r32), (24, 194, r24), (5, 94, r5)]
def tags : List (Nat × TypeId × Nat) := [(3, 38, 5), (4, 4, 1), (5, 148, 3), (13, 24, 1), (15, 3, 1), (19, 5, 1)]
theorem ok143 : FnOk Try.prog c F (143, 3, r143) := ⟨Try.f3, [], [[3, 4, 5, 6, 7], [10, 1, 2, 3, 4, 5, 0, 6, 7, 8, 9, 11, 12], [0, 1, 2, 3, 4, 5, 6, 7, 8, 10, 11, 9, 12], [], [], [0, 2, 1, 3, 4, 5], [0, 1, 2, 3, 4, 5], [], [], [0, 1, 2, 3, 4, 5, 7, 8, 9, 6, 10, 11, 12, 13, 14, 15, 16, 17, 18, 19, 20, 21, 22, 23, 24, 25, 26, 27, 28, 29, 30, 31, 32, 33, 34, 35, 36, 37, 38, 39, 40, 41, 42, 43, 44], [0, 1, 2, 3, 4, 5, 6, 7, 8, 9, 10, 11, 12, 13, 14, 15, 16, 17, 18, 19, 20, 21, 22, 23, 24, 25, 26, 27, 28, 29, 30, 31, 32, 33, 34, 35, 36, 37, 38, 39, 40, 41, 42, 43, 44], [], [], [3, 4, 5, 6, 7, 8, 11, 12, 13]], Try.func3, by kernel_rfl, by kernel_rfl, by kernel_rfl⟩
theorem ok144 : FnOk Try.prog c F (144, 15, r144) := ⟨Try.f15, [], [], Try.func15, by kernel_rfl, by kernel_rfl, by kernel_rfl⟩
theorem ok145 : FnOk Try.prog c F (145, 16, r145) := ⟨Try.f16, [], [[1, 2, 0, 3, 4, 5], [0, 1, 2, 3, 4, 5], [], [0, 3]], Try.func16, by kernel_rfl, by kernel_rfl, by kernel_rfl⟩
theorem ok60 : FnOk Try.prog c F (60, 17, r60) := ⟨Try.f17, [], [[2, 4, 6, 20, 21, 22]], Try.func17, by kernel_rfl, by kernel_rfl, by kernel_rfl⟩
theorem ok15 : FnOk Try.prog c F (15, 18, r15) := ⟨Try.f18, [], [], Try.func18, by kernel_rfl, by kernel_rfl, by kernel_rfl⟩
theorem ok18 : FnOk Try.prog c F (18, 19, r18) := ⟨Try.f19, [], [], Try.func19, by kernel_rfl, by kernel_rfl, by kernel_rfl⟩
theorem ok47 : FnOk Try.prog c F (47, 20, r47) := ⟨Try.f20, [], [], Try.func20, by kernel_rfl, by kernel_rfl, by kernel_rfl⟩
theorem ok194 : FnOk Try.prog c F (194, 77, r194) := ⟨Try.f77, [31], [[0, 3, 4]], Try.func77, by kernel_rfl, by kernel_rfl, by kernel_rfl⟩
theorem ok195 : FnOk Try.prog c F (195, 78, r195) := ⟨Try.f78, [], [[1, 2, 0, 3, 4, 5, 6, 7, 8], [0, 1, 2, 3, 4, 5, 6, 8, 7], [], [0, 3]], Try.func78, by kernel_rfl, by kernel_rfl, by kernel_rfl⟩
theorem ok196 : FnOk Try.prog c F (196, 79, r196) := ⟨Try.f79, [], [[0, 5, 6]], Try.func79, by kernel_rfl, by kernel_rfl, by kernel_rfl⟩
theorem ok28 : FnOk Try.prog c F (28, 80, r28) := ⟨Try.f80, [], [[0, 1, 2, 3, 4, 5, 6, 7, 8, 12, 9, 10, 11, 13], [0, 1, 2, 3, 4, 5, 6, 7, 8, 12, 9, 10, 11, 13], [], []], Try.func80, by kernel_rfl, by kernel_rfl, by kernel_rfl⟩
theorem ok38 : FnOk Try.prog c F (38, 81, r38) := ⟨Try.f81, [], [], Try.func81, by kernel_rfl, by kernel_rfl, by kernel_rfl⟩
theorem ok37 : FnOk Try.prog c F (37, 82, r37) := ⟨Try.f82, [], [], Try.func82, by kernel_rfl, by kernel_rfl, by kernel_rfl⟩
theorem ok29 : FnOk Try.prog c F (29, 83, r29) := ⟨Try.f83, [], [], Try.func83, by kernel_rfl, by kernel_rfl, by kernel_rfl⟩
theorem ok235 : FnOk Try.prog c F (235, 143, r235) := ⟨Try.f143, [], [], Try.func143, by kernel_rfl, by kernel_rfl, by kernel_rfl⟩
theorem ok20 : FnOk Try.prog c F (20, 144, r20) := ⟨Try.f144, [], [], Try.func144, by kernel_rfl, by kernel_rfl, by kernel_rfl⟩
theorem ok236 : FnOk Try.prog c F (236, 145, r236) := ⟨Try.f145, [], [], Try.func145, by kernel_rfl, by kernel_rfl, by kernel_rfl⟩
theorem ok237 : FnOk Try.prog c F (237, 146, r237) := ⟨Try.f146, [], [], Try.func146, by kernel_rfl, by kernel_rfl, by kernel_rfl⟩
theorem ok59 : FnOk Try.prog c F (59, 147, r59) := ⟨Try.f147, [], [[1, 2, 4, 6, 7]], Try.func147, by kernel_rfl, by kernel_rfl, by kernel_rfl⟩
theorem ok238 : FnOk Try.prog c F (238, 148, r238) := ⟨Try.f148, [], [], Try.func148, by kernel_rfl, by kernel_rfl, by kernel_rfl⟩
theorem ok239 : FnOk Try.prog c F (239, 149, r239) := ⟨Try.f149, [], [], Try.func149, by kernel_rfl, by kernel_rfl, by kernel_rfl⟩
theorem ok240 : FnOk Try.prog c F (240, 150, r240) := ⟨Try.f150, [], [], Try.func150, by kernel_rfl, by kernel_rfl, by kernel_rfl⟩
theorem ok30 : FnOk Try.prog c F (30, 151, r30) := ⟨Try.f151, [], [], Try.func151, by kernel_rfl, by kernel_rfl, by kernel_rfl⟩
theorem ok14 : FnOk Try.prog c F (14, 189, r14) := ⟨Try.f189, [], [[0, 1, 2, 3, 4, 5, 6, 7, 8, 12, 9, 10, 11, 13], [0, 1, 2, 3, 4, 5, 6, 7, 8, 12, 9, 10, 11, 13], [], []], Try.func189, by kernel_rfl, by kernel_rfl, by kernel_rfl⟩
theorem ok263 : FnOk Try.prog c F (263, 190, r263) := ⟨Try.f190, [], [[0, 1, 5, 6, 2, 3, 4, 7, 8, 9, 10, 11, 12], [0, 1, 2, 3, 4, 5, 6, 7, 8, 9, 10, 11, 12], [], [], [0, 1, 4, 5, 2, 3, 6, 7, 8, 9], [0, 1, 2, 3, 4, 5, 6, 7, 8, 9], [], [], [0, 1, 2, 5, 6, 3, 4, 7, 8, 9, 10, 11, 12, 13, 14], [0, 1, 2, 3, 4, 5, 6, 7, 8, 9, 10, 11, 12, 13, 14], [], []], Try.func190, by kernel_rfl, by kernel_rfl, by kernel_rfl⟩
theorem ok264 : FnOk Try.prog c F (264, 191, r264) := ⟨Try.f191, [], [[0, 3, 4]], Try.func191, by kernel_rfl, by kernel_rfl, by kernel_rfl⟩
theorem ok35 : FnOk Try.prog c F (35, 192, r35) := ⟨Try.f192, [], [], Try.func192, by kernel_rfl, by kernel_rfl, by kernel_rfl⟩
theorem ok32 : FnOk Try.prog c F (32, 193, r32) := ⟨Try.f193, [], [], Try.func193, by kernel_rfl, by kernel_rfl, by kernel_rfl⟩
theorem ok24 : FnOk Try.prog c F (24, 194, r24) := ⟨Try.f194, [], [], Try.func194, by kernel_rfl, by kernel_rfl, by kernel_rfl⟩
theorem ok5 : FnOk Try.prog c F (5, 94, r5) := ⟨Try.f94, [], [], Try.func94, by kernel_rfl, by kernel_rfl, by kernel_rfl⟩
theorem okT : (c.T.all fun x => x.2.okB Try.prog (mkCfg Try.prog tab tags).ET (mkCfg Try.prog tab tags).SZ x.1) = true := by kernel_rfl
theorem okF : (c.F.all fun x => decide ((lk tab x.2).map (·.1) = some x.1)) = true := by kernel_rfl
theorem okTab : AllT (FnOk Try.prog c F) tab := ⟨ok143, ok144, ok145, ok60, ok15, ok18, ok47, ok194, ok195, ok196, ok28, ok38, ok37, ok29, ok235, ok20, ok236, ok237, ok59, ok238, ok239, ok240, ok30, ok14, ok263, ok264, ok35, ok32, ok24, ok5, trivial⟩
theorem prog (O : Nat) : ProgOk ((mkCfg Try.prog tab tags).at O) c F (fun _ _ _ => none) :=
  mkProg okT okF okTab ⟨⟩ ⟨⟨by kernel_rfl, by kernel_rfl, by kernel_rfl⟩, trivial⟩ O
theorem inI14 : AllT (fun x => F x.1 = some x.2) tI14 := ⟨rfl, rfl, rfl, rfl, rfl, rfl, rfl, rfl, rfl, rfl, rfl, rfl, rfl, trivial⟩
theorem inLaws : AllT (fun x => F x.1 = some x.2) tLaws := ⟨rfl, rfl, trivial⟩
theorem inS01d : AllT (fun x => F x.1 = some x.2) tS01d := ⟨rfl, rfl, rfl, rfl, rfl, rfl, rfl, rfl, rfl, trivial⟩
theorem inS10 : AllT (fun x => F x.1 = some x.2) tS10 := ⟨rfl, rfl, rfl, rfl, rfl, rfl, rfl, rfl, rfl, rfl, rfl, rfl, rfl, trivial⟩
theorem inS14 : AllT (fun x => F x.1 = some x.2) tS14 := ⟨rfl, rfl, rfl, rfl, rfl, rfl, rfl, rfl, rfl, rfl, rfl, trivial⟩
theorem inWFnTx : AllT (fun x => F x.1 = some x.2) tWFnTx := ⟨rfl, trivial⟩
end Go.Proofs.Ytlbagejkjkfkjaa.A.Tx
/- FnTx: the law's function answers true, whatever is drawn. -/
namespace Go.Proofs.Ytlbagejkjkfkjaa.A
open Go
set_option linter.unusedSimpArgs false
set_option linter.unusedVariables false
def Tx.run (t : Tx) : List TxEvent → Tx
  | [] => t
  | e :: r => Tx.run (t.step e).1 r
def Tx.flags (t : Tx) : List TxEvent → List Bool
  | [] => []
  | e :: r => (t.step e).2 :: Tx.flags (t.step e).1 r
theorem fold_run : ∀ (es : List TxEvent) (a : Tx × List Bool), es.foldl (fun a e => ((a.1.step e).1, a.2 ++ [(a.1.step e).2])) a = (a.1.run es, a.2 ++ a.1.flags es)
  | [], a => by simp [Tx.run, Tx.flags]
  | e :: r, a => by rw [List.foldl_cons, fold_run r]; simp [Tx.run, Tx.flags]
theorem play_run {t : Tx} (h : t.ok = true) {es : List TxEvent} (hl : es.length ≤ 100) : t.play es = (t.run es, t.flags es) := by
  simp only [Tx.play, h, Bool.true_and, decide_eq_true hl, cond_true, fold_run, List.nil_append]
theorem Tx.run_snoc : ∀ (es : List TxEvent) (t : Tx) (e : TxEvent), t.run (es ++ [e]) = ((t.run es).step e).1
  | [], _, _ => rfl
  | _ :: r, _, e => Tx.run_snoc r _ e
theorem Tx.flags_len : ∀ (es : List TxEvent) (t : Tx), (t.flags es).length = es.length
  | [], _ => rfl
  | _ :: r, _ => by simp [Tx.flags, Tx.flags_len r]
theorem Tx.flags_at : ∀ (es : List TxEvent) (t : Tx) (i : Nat) (hi : i < es.length), (t.flags es)[i]? = some ((t.run (es.take i)).step es[i]).2
  | [], _, _, hi => absurd hi (Nat.not_lt_zero _)
  | _ :: _, _, 0, _ => rfl
  | _ :: r, _, i + 1, hi => by
    simp only [Tx.flags, List.getElem?_cons_succ, List.take_succ_cons, Tx.run, List.getElem_cons_succ]
    exact Tx.flags_at r _ i (by simpa using hi)
theorem run_ok : ∀ (es : List TxEvent) {t : Tx}, t.ok = true → (t.run es).ok = true
  | [], _, h => h
  | e :: r, _, h => run_ok r (step_ok h e)
theorem tx_eqs (neg : Bool) (t : Tx) : eqsR neg [.i .i64, .i .u64, .i .u64, .i .u64, .i .i64, .b, .b, .b, .b, .i .i64] (some (.agg t.enc)) (some (.agg t.enc)) = some (.bool (neg ^^ true)) := by
  have hc : cellsEq? [.i .i64, .i .u64, .i .u64, .i .u64, .i .i64, .b, .b, .b, .b, .i .i64] t.enc t.enc = some true := by simp [cellsEq?, eqK, Tx.enc]
  simp only [eqsR, hc, Tx.len, List.length_cons, List.length_nil, and_self, if_true, Option.bind_some]
section
variable {F : Nat → Option RF} {Z : CallF} {h : Heap}
set_option maxHeartbeats 4000000 in
/-- What is sent is right, one by one. -/
theorem tx_sent {g : Heap} {n : Tx} {ss : List Request} {s : Cell} {fp : List Nat} (w : SlR 3 (Fl Request.enc) g s ss fp) (hs : ∀ q, q ∈ ss → SendOk n q) (hl : ss.length ≤ 2) (y z : Cell) (i : Int) (t l : List Cell) :
    loop F Z [3, 4, 5, 6, 7, 8, 11, 12, 13] r143L0 ⟨[(4, .c y), (6, .c z), (7, .c (.int .i64 i)), (11, .c (.int .i64 n.outcome)), (12, .c s), (13, .c (.int .i64 ((0 : Nat) : Int)))], [(3, 3, 0), (5, 5, 0), (8, 8, 0)], [(3, t), (5, l), (8, n.enc)], g⟩ =
    loop F Z [3, 4, 5, 6, 7, 8, 11, 12, 13] r143L0 ⟨[(4, .c y), (6, .c z), (7, .c (.int .i64 i)), (11, .c (.int .i64 n.outcome)), (12, .c s), (13, .c (.int .i64 (ss.length : Nat)))], [(3, 3, 0), (5, 5, 0), (8, 8, 0)], [(3, t), (5, l), (8, n.enc)], g⟩ :=
  loop_goesF ss.length (fun j => ⟨[(4, .c y), (6, .c z), (7, .c (.int .i64 i)), (11, .c (.int .i64 n.outcome)), (12, .c s), (13, .c (.int .i64 (j : Nat)))], [(3, 3, 0), (5, 5, 0), (8, 8, 0)], [(3, t), (5, l), (8, n.enc)], g⟩) fun j hj => by
    have hlt : (j : Int) < ss.length := by omega
    have hws := wrapS j (by omega)
    have hxi := w.idx hj
    have hld := w.load hj
    have hln := w.len
    have ho := hs _ (List.getElem_mem hj)
    generalize ss[j] = q at *
    obtain ⟨qe, qo, qi, qm, qt⟩ := q
    obtain ⟨h1, h2, h3, h4⟩ := ho
    simp only at h1 h2 h3 h4
    have k1 : (qt != n.id) = false := by simp [h1]
    rw [loop_run]
    conv in (codeF _ _ r143L0 _) => unfold r143L0
    have kk : ∀ (v : Bool), (qi = n.a → n.af = false) → ((qi == n.a) = v) → v = true → n.af = false := fun v ha hv hvt => ha (by subst hvt; simpa using hv)
    cases ka : (qi == n.a) <;> cases kb : (qi == n.b)
    all_goals
      have fa : (qi == n.a) = true → n.af = false := fun e => h3 (by simpa using e)
      have fb : (qi == n.b) = true → n.at_ = false := fun e => h4 (by simpa using e)
      simp only [ka, kb, forall_const, Bool.false_eq_true, false_implies] at fa fb
      rcases h2 with ⟨h2 | h2, h5⟩ | ⟨h2, h5⟩ | ⟨h2, h5⟩
    all_goals
      subst h2
      first
        | (have h6 : (n.outcome != 0) = false := by simp [h5]
           simp only [run0, run1, run2, run3, run4, noSlot, ownS, ownK, memN, RO.dst, lk, drop, forget, number, Nat.reduceBEq, cut?, splice?, builds, List.length_cons, List.length_nil, List.drop_succ_cons, List.drop_zero, List.take_succ_cons, List.take_zero, List.cons_append, List.nil_append, List.append_nil, List.drop_nil, List.take_nil, Nat.reduceAdd, Nat.reduceLeDiff, Nat.zero_add, Nat.add_zero, ↓reduceIte, Bool.not_true, Bool.not_false, decide_true, decide_false, eq_self, bne_self_eq_false, List.getElem?_cons_zero, List.getElem?_cons_succ, decide_eq_true_eq, Bool.false_eq_true, Bool.true_eq_false, reduceCtorEq, Nat.le_refl, hln, hlt, hxi, hld, Request.enc, Tx.enc, k1, ka, kb, fa, fb, h6, hws, Int.reduceBEq, Int.reduceNeg]; done)
        | (have h6 : ¬ n.outcome ≤ 0 := by omega
           simp only [run0, run1, run2, run3, run4, noSlot, ownS, ownK, memN, RO.dst, lk, drop, forget, number, Nat.reduceBEq, cut?, splice?, builds, List.length_cons, List.length_nil, List.drop_succ_cons, List.drop_zero, List.take_succ_cons, List.take_zero, List.cons_append, List.nil_append, List.append_nil, List.drop_nil, List.take_nil, Nat.reduceAdd, Nat.reduceLeDiff, Nat.zero_add, Nat.add_zero, ↓reduceIte, Bool.not_true, Bool.not_false, decide_true, decide_false, eq_self, bne_self_eq_false, List.getElem?_cons_zero, List.getElem?_cons_succ, decide_eq_true_eq, Bool.false_eq_true, Bool.true_eq_false, reduceCtorEq, Nat.le_refl, hln, hlt, hxi, hld, Request.enc, Tx.enc, k1, ka, kb, fa, fb, h6, hws, Int.reduceBEq, Int.reduceNeg]; done)
        | (have h6 : (n.outcome != -1) = false := by simp [h5]
           simp only [run0, run1, run2, run3, run4, noSlot, ownS, ownK, memN, RO.dst, lk, drop, forget, number, Nat.reduceBEq, cut?, splice?, builds, List.length_cons, List.length_nil, List.drop_succ_cons, List.drop_zero, List.take_succ_cons, List.take_zero, List.cons_append, List.nil_append, List.append_nil, List.drop_nil, List.take_nil, Nat.reduceAdd, Nat.reduceLeDiff, Nat.zero_add, Nat.add_zero, ↓reduceIte, Bool.not_true, Bool.not_false, decide_true, decide_false, eq_self, bne_self_eq_false, List.getElem?_cons_zero, List.getElem?_cons_succ, decide_eq_true_eq, Bool.false_eq_true, Bool.true_eq_false, reduceCtorEq, Nat.le_refl, hln, hlt, hxi, hld, Request.enc, Tx.enc, k1, ka, kb, fa, fb, h6, hws, Int.reduceBEq, Int.reduceNeg]; done)
set_option maxHeartbeats 8000000 in
set_option maxRecDepth 20000 in
theorem tx_turn (hI14 : Has F tI14) (hf : h.floor ≤ h.next) {g : Heap} (o : On h g) {y z : Cell} {es : List TxEvent} {fs : List Bool} {fp fq : List Nat} (w : SlR 5 (Fl TxEvent.enc) h y es fp) (v : SlR 4 (Fl bool_enc) h z fs fq) (hle : es.length ≤ 100) (hfl : fs.length = es.length)
    (t : Tx) (ok : t.ok = true) (i : Nat) (hi : i < es.length) (hfi : fs[i]'(by omega) = (t.step es[i]).2) (l : List Cell) :
    ∃ g', On h g' ∧ loop F Z [3, 4, 5, 6, 7] r143L1 ⟨[(4, .c y), (6, .c z), (7, .c (.int .i64 ((i : Nat) : Int)))], [(3, 3, 0), (5, 5, 0)], [(3, t.enc), (5, l)], g⟩ =
      loop F Z [3, 4, 5, 6, 7] r143L1 ⟨[(4, .c y), (6, .c z), (7, .c (.int .i64 ((i + 1 : Nat) : Int)))], [(3, 3, 0), (5, 5, 0)], [(3, (t.step es[i]).1.enc), (5, l)], g'⟩ := by
  have hlt : (i : Int) < es.length := by omega
  have hws := wrapS i (by omega)
  have hf1 : g.floor ≤ g.next := o.le hf
  have wg := w.on (Fl.ok _) o
  have vg := v.on (Fl.ok _) o
  have hwl := w.len
  -- one event alone
  obtain ⟨yv, hcut, wv⟩ := (wg.vw.up g.next).cut (a := i) (b := i + 1) (by omega) (by omega) (lo := some (i : Int)) (hi := some ((i + 1 : Nat) : Int)) rfl rfl
  have hone : (es.take (i + 1)).drop i = [es[i]] := by
    rw [List.take_add_one, List.getElem?_eq_getElem hi, List.drop_append, List.drop_eq_nil_of_le (by simp; omega), List.nil_append, List.length_take, Nat.min_eq_left (by omega), Nat.sub_self]
    rfl
  rw [hone] at wv
  generalize es[i] = e at *
  obtain ⟨y1, hq, e1, a1⟩ := PlayTxV_run (Z := Z) (h := ⟨g.next, g.next, g.get⟩) hI14 (Nat.le_refl _) wv t
  have hpl : t.play [e] = ((t.step e).1, [(t.step e).2]) := by
    rw [play_run ok (by simp)]; rfl
  rw [hpl] at e1 a1
  obtain ⟨oq, f1, vq, _⟩ := a1.flat
  obtain ⟨g1, mq⟩ : ∃ g', Heap.mk hq.next g.floor hq.get = g' := ⟨_, rfl⟩
  have o1 : On g g1 := by rw [← mq]; exact ⟨⟨oq.ext.1, oq.ext.2⟩, rfl⟩
  have v1 := vq.up (Fl.ok _) g.floor
  change SlR 4 (Fl bool_enc) ⟨hq.next, g.floor, hq.get⟩ y1 _ f1 at v1
  rw [mq] at v1
  have v1l := v1.len
  have v1i := v1.idx (i := 0) (by simp)
  have v1d := v1.load (i := 0) (by simp)
  simp only [List.getElem_cons_zero, List.length_cons, List.length_nil, Nat.zero_add, show ((0 : Nat) : Int) = 0 from rfl, show ((1 : Nat) : Int) = 1 from rfl] at v1l v1i v1d
  have hzi := v.idx (i := i) (by omega)
  have hzd := (vg.on (Fl.ok _) o1).load (i := i) (by omega)
  rw [hfi] at hzd
  -- what the step keeps
  have nok := step_ok ok e
  obtain ⟨hph, hou⟩ := step_phase ok e
  have hsame := step_same (t := t) e
  have hcm := ok_commit nok
  obtain ⟨hs1, hs2, hs3⟩ := sends_ok nok
  generalize (t.step e).1 = n at *
  generalize (t.step e).2 = f at *
  have o01 := o.trans o1
  obtain ⟨s, g2, fs2, e2, o2, w2, _⟩ := TxSends_e (Z := Z) hI14 (o01.le hf) n
  have w2l := w2.len
  have sent := tx_sent (F := F) (Z := Z) w2 hs1 hs3 y z (i : Int) t.enc l
  have hslen : (((n.sends.length : Nat) : Int) == 0) = (n.phase == 3) := by
    rw [← hs2, Bool.eq_iff_iff]; simp
  have hs3' : ¬ ((n.sends.length : Nat) : Int) > 2 := by omega
  have hlt2 : ¬ ((n.sends.length : Nat) : Int) < n.sends.length := by omega
  have eo := fun g => TxOutcome_e (Z := Z) hI14 t g
  have en := fun g => TxOutcome_e (Z := Z) hI14 n g
  have ek := fun g => TxOk_e (Z := Z) hI14 n g
  rw [nok] at ek
  have hphn : ¬ n.phase < t.phase := by omega
  refine ⟨g2, o01.trans o2, ?_⟩
  simp only [Tx.enc, show ((0 : Nat) : Int) = 0 from rfl] at e1 e2 eo en ek sent
  have hee := tx_eqs true t
  simp only [Tx.enc] at hee
  have hfin : f = false → eqsR true [.i .i64, .i .u64, .i .u64, .i .u64, .i .i64, .b, .b, .b, .b, .i .i64] (some (.agg n.enc)) (some (.agg t.enc)) = some (.bool false) := fun h => by rw [hsame h]; exact tx_eqs true t
  simp only [Tx.enc] at hfin
  generalize n.sends = ss at *
  clear hs1 hs2 hs3 nok hsame wv a1 vq v1 w w2 wg vg o1 o2 oq hone v
  generalize ht : t.outcome = was at *
  generalize hn : n.outcome = now at *
  clear ht hn
  have hnw : was ≥ 0 → (now != was) = false := fun h => by rw [hou h]; simp
  clear hou hph ok hf hf1 hle hfl hfi o o01
  rw [loop_run]
  conv in (codeF _ _ r143L1 _) => unfold r143L1
  cases hp3 : (n.phase == 3)
  all_goals
    rw [hp3] at hslen
    obtain ⟨nid, na, nb, nm, nph, nyf, nyt, naf, nat, nr⟩ := n
    simp only at e1 e2 en ek sent hcm hphn hp3 hfin
    cases nyf <;> cases nyt
  all_goals
    simp only [Bool.and_self, Bool.and_true, Bool.and_false, Bool.false_and, Bool.true_and] at hcm
    by_cases hw : was ≥ 0
  all_goals
    cases f
  all_goals
    first
      | (have hnw' := hnw hw
         simp only [run0, run1, run2, run3, run4, noSlot, ownS, ownK, memN, RO.dst, lk, drop, forget, number, Nat.reduceBEq, cut?, splice?, builds, List.length_cons, List.length_nil, List.drop_succ_cons, List.drop_zero, List.take_succ_cons, List.take_zero, List.cons_append, List.nil_append, List.append_nil, List.drop_nil, List.take_nil, Nat.reduceAdd, Nat.reduceLeDiff, Nat.zero_add, Nat.add_zero, ↓reduceIte, Bool.not_true, Bool.not_false, decide_true, decide_false, eq_self, bne_self_eq_false, List.getElem?_cons_zero, List.getElem?_cons_succ, decide_eq_true_eq, Bool.false_eq_true, Bool.true_eq_false, reduceCtorEq, Nat.le_refl, hwl, hlt, hws, hcut, Tx.enc, e1, mq, eo, en, v1l, v1i, v1d, hzi, hzd, bool_enc, ek, hw, hnw', hphn, hcm, e2, w2l, hslen, hp3, hs3', hfin, sent])
      | simp only [run0, run1, run2, run3, run4, noSlot, ownS, ownK, memN, RO.dst, lk, drop, forget, number, Nat.reduceBEq, cut?, splice?, builds, List.length_cons, List.length_nil, List.drop_succ_cons, List.drop_zero, List.take_succ_cons, List.take_zero, List.cons_append, List.nil_append, List.append_nil, List.drop_nil, List.take_nil, Nat.reduceAdd, Nat.reduceLeDiff, Nat.zero_add, Nat.add_zero, ↓reduceIte, Bool.not_true, Bool.not_false, decide_true, decide_false, eq_self, bne_self_eq_false, List.getElem?_cons_zero, List.getElem?_cons_succ, decide_eq_true_eq, Bool.false_eq_true, Bool.true_eq_false, reduceCtorEq, Nat.le_refl, hwl, hlt, hws, hcut, Tx.enc, e1, mq, eo, en, v1l, v1i, v1d, hzi, hzd, bool_enc, ek, hw, hphn, hcm, e2, w2l, hslen, hp3, hs3', hfin, sent]
    rw [loop_run]
    conv in (codeF _ _ r143L0 _) => unfold r143L0
    simp only [run0, run1, run2, run3, run4, noSlot, ownS, ownK, memN, RO.dst, lk, drop, forget, number, Nat.reduceBEq, cut?, splice?, builds, List.length_cons, List.length_nil, List.drop_succ_cons, List.drop_zero, List.take_succ_cons, List.take_zero, List.cons_append, List.nil_append, List.append_nil, List.drop_nil, List.take_nil, Nat.reduceAdd, Nat.reduceLeDiff, Nat.zero_add, Nat.add_zero, ↓reduceIte, Bool.not_true, Bool.not_false, decide_true, decide_false, eq_self, bne_self_eq_false, List.getElem?_cons_zero, List.getElem?_cons_succ, decide_eq_true_eq, Bool.false_eq_true, Bool.true_eq_false, reduceCtorEq, Nat.le_refl, w2l, hlt2, hws]
theorem law_Tx (hI14 : Has F tI14) (hLaws : Has F tLaws) (hS : Has F tS01d) (hS10 : Has F tS10) (hS14 : Has F tS14) (hW : Has F tWFnTx) (h : Heap) (avs : List V) (hfl : h.floor = h.next) (w : ArgsWf h 8 [shUint8S] avs) : ∃ h', call F Z 143 avs h = some (.c (.bool true), h') := by
  obtain ⟨x, _, rfl, xw, w1⟩ := ArgsWf.slice w
  obtain ⟨code, v⟩ := Wf.isBytes xw
  obtain rfl := w1.nil
  have f0 : h.floor ≤ h.next := by omega
  rw [call_run F Z (hW.lk (g := 143) rfl) _ _ rfl]
  have hb := big_run (Z := Z) hLaws v
  by_cases hbig : (code.length : Int) > 1048576
  · rw [decide_eq_true hbig] at hb
    simp only [run0, run1, run2, run3, run4, noSlot, ownS, ownK, memN, RO.dst, lk, drop, forget, number, Nat.reduceBEq, cut?, splice?, builds, List.length_cons, List.length_nil, List.drop_succ_cons, List.drop_zero, List.take_succ_cons, List.take_zero, List.cons_append, List.nil_append, List.append_nil, List.drop_nil, List.take_nil, Nat.reduceAdd, Nat.reduceLeDiff, Nat.zero_add, Nat.add_zero, ↓reduceIte, Bool.not_true, Bool.not_false, decide_true, decide_false, eq_self, bne_self_eq_false, List.getElem?_cons_zero, List.getElem?_cons_succ, decide_eq_true_eq, Bool.false_eq_true, Bool.true_eq_false, reduceCtorEq, Nat.le_refl, hb]
    exact ⟨_, rfl⟩
  rw [decide_eq_false hbig] at hb
  obtain ⟨t, y, es, h1, fp, e1, o1, ok, w1, hes, r1⟩ := DrawRightTx_c (Z := Z) hS hS10 hS14 f0 v
  obtain ⟨z, h2, fq, e2, o2, v2, _⟩ := PlayTx_c (Z := Z) hI14 (o1.le f0) t w1
  rw [play_run ok hes] at e2 v2
  have ek := TxOk_e (Z := Z) hI14 t h2
  rw [ok] at ek
  have w2 := w1.on (Fl.ok _) o2
  have hfl2 := Tx.flags_len es t
  have hln : (((t.flags es).length : Nat) : Int) = (es.length : Nat) := by rw [hfl2]
  have hlen : (((t.flags es).length : Int) != (es.length : Int)) = false := by rw [hln]; simp
  obtain ⟨s', ⟨g, rfl, og⟩, key⟩ := loop_goes (F := F) (Z := Z) (live := [3, 4, 5, 6, 7]) (b := r143L1) es.length (fun i s => ∃ g : Heap, s = ⟨[(4, .c y), (6, .c z), (7, .c (.int .i64 (i : Nat)))], [(3, 3, 0), (5, 5, 0)], [(3, (t.run (es.take i)).enc), (5, (t.run es).enc)], g⟩ ∧ On h2 g) (fun i s hi ⟨g, hs, og⟩ => by
    subst hs
    have hfi : (t.flags es)[i]'(by omega) = ((t.run (es.take i)).step es[i]).2 := by
      have := Tx.flags_at es t i hi
      rw [List.getElem?_eq_getElem (by omega)] at this
      injection this
    obtain ⟨g', og', e⟩ := tx_turn (F := F) (Z := Z) hI14 ((o1.trans o2).le f0) og w2 v2 hes hfl2 (t.run (es.take i)) (run_ok _ ok) i hi hfi (t.run es).enc
    refine ⟨_, ⟨g', rfl, og'⟩, ?_⟩
    rw [e]
    congr 5
    rw [List.take_add_one, List.getElem?_eq_getElem hi]
    exact (Tx.run_snoc _ _ _).symm) (s := ⟨[(4, .c y), (6, .c z), (7, .c (.int .i64 ((0 : Nat) : Int)))], [(3, 3, 0), (5, 5, 0)], [(3, t.enc), (5, (t.run es).enc)], h2⟩) ⟨h2, by simp [Tx.run], On.refl h2⟩
  rw [List.take_length] at key
  simp only [show ((0 : Nat) : Int) = 0 from rfl] at key
  have hlt : ¬ (es.length : Int) < es.length := by omega
  have hee := tx_eqs false (t.run es)
  simp only [run0, run1, run2, run3, run4, noSlot, ownS, ownK, memN, RO.dst, lk, drop, forget, number, Nat.reduceBEq, cut?, splice?, builds, List.length_cons, List.length_nil, List.drop_succ_cons, List.drop_zero, List.take_succ_cons, List.take_zero, List.cons_append, List.nil_append, List.append_nil, List.drop_nil, List.take_nil, Nat.reduceAdd, Nat.reduceLeDiff, Nat.zero_add, Nat.add_zero, ↓reduceIte, Bool.not_true, Bool.not_false, decide_true, decide_false, eq_self, bne_self_eq_false, List.getElem?_cons_zero, List.getElem?_cons_succ, decide_eq_true_eq, Bool.false_eq_true, Bool.true_eq_false, reduceCtorEq, Nat.le_refl, hb, e1, Tx.len, Tx.tak, e2, ek, v2.len, w1.len, hlen, key]
  rw [loop_run]
  conv in (codeF _ _ r143L1 _) => unfold r143L1
  simp only [run0, run1, run2, run3, run4, noSlot, ownS, ownK, memN, RO.dst, lk, drop, forget, number, Nat.reduceBEq, cut?, splice?, builds, List.length_cons, List.length_nil, List.drop_succ_cons, List.drop_zero, List.take_succ_cons, List.take_zero, List.cons_append, List.nil_append, List.append_nil, List.drop_nil, List.take_nil, Nat.reduceAdd, Nat.reduceLeDiff, Nat.zero_add, Nat.add_zero, ↓reduceIte, Bool.not_true, Bool.not_false, decide_true, decide_false, eq_self, bne_self_eq_false, List.getElem?_cons_zero, List.getElem?_cons_succ, decide_eq_true_eq, Bool.false_eq_true, Bool.true_eq_false, reduceCtorEq, Nat.le_refl, w1.len, hlt, Tx.len, Tx.tak, hee]
  exact ⟨_, rfl⟩
end
end Go.Proofs.Ytlbagejkjkfkjaa.A
/- FnTx: the row's statement, from the law of the abstract run. No condition. -/
namespace Go.Proofs.Ytlbagejkjkfkjaa.A.Tx
open Go Go.ChangeShapes Go.WideShapes Go.ChangeAt Go.RowKit
theorem own : ownKnob Try.prog.godebug = none := by kernel_rfl
set_option maxRecDepth 100000 in
theorem lifted (os : Os) (started : os.Started) (H : Type) (enc : TypeId × Value → H) :
    ReturnsInHanded {} Try.checked os 3 .any (Rows.fnTxSpec.pre6 enc Try.prog Try.f3 Rows.fnTxRow.domain false) (Rows.fnTxSpec.post enc Try.prog Try.f3 false true false false) := by
  refine returnsInHanded_of_change_sized (C := Try.checked) own started (by kernel_rfl) Try.func3
    (ChangeSpec.witness6 (enc := enc) (C := Try.checked) false ⟨#[], #[.slice none 0 0], []⟩ 8 (by kernel_rfl) (by kernel_rfl) (by kernel_rfl) (by kernel_rfl)) ?_
  intro W base args ds gs before hval hW _ _ _
  have hW' := hW
  obtain ⟨p, q, hA, hV, rfl, hfz, hnd⟩ := hW
  obtain ⟨rfl, rfl⟩ := trodVars_none hV
  have r0 : DataW.TrodAll enc Try.prog W 0 (fun _ => true) true [22] args.toList ds p := hA
  obtain ⟨_, _, d0, _, _, _, _, rfl, _, _, r1⟩ := trodAll_cons r0
  obtain ⟨_, rfl, _⟩ := trodAll_nil r1
  refine (law_calls (ts := [22]) (ss := [shUint8S]) prog (show (mkCfg Try.prog tab tags).G 143 = some 3 from by kernel_rfl) ⟨show shIs Try.prog (mkCfg Try.prog tab tags).ET (mkCfg Try.prog tab tags).SZ 8 22 shUint8S = true from by kernel_rfl, trivial⟩ (law_Tx inI14 inLaws inS01d inS10 inS14 inWFnTx) (fun j t v h1 => hval j t v (by rw [Try.params3]; exact (List.getElem?_toArray ..).trans h1)) hA).mono fun e W' ⟨he, bel⟩ => ?_
  subst he
  exact ⟨_, rfl, _, _, _, [], _, [], hW', trodAll_mk1 (shut_bool Try.underlying4 _), trodAll_below (by kernel_rfl) bel _ _ _ _ (by kernel_rfl) hA hA.lt, rfl, bel.frame _, fun h => by cases h⟩
theorem over : Rows.fnTxRow.holds Try.pinned (OpenSpec.ofChange Rows.fnTxSpec) :=
  OpenClaim.holds_of_wide 3 Try.f3 rfl rfl rfl rfl rfl rfl rfl ⟨rfl, rfl, rfl, rfl, rfl⟩ rfl rfl rfl rfl rfl (by kernel_rfl) Try.func3 (by kernel_rfl)
    (of_decide_eq_true (by kernel_rfl)) (by unfold Func.isWrapper; first | (rw [if_pos (by decide +kernel)]; kernel_rfl) | (rw [if_neg (by decide +kernel)]; exact ⟨rfl, rfl⟩))
    (fun os started H enc _ => lifted os started H enc)
end Go.Proofs.Ytlbagejkjkfkjaa.A.Tx
namespace Go.Proofs.Ytlbagejkjkfkjaa
/-- The row. -/
theorem fnTx_holds : Rows.FnTxSaid := A.Tx.over
#print axioms fnTx_holds
end Go.Proofs.Ytlbagejkjkfkjaa
