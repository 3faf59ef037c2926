/- The functions that the statement reaches, part 3: bodies and what they compute. No condition. -/
import Derived.Test.YtahkgghifaodoaaGreatHCExactDoStore2
namespace Go.Proofs.YtahkgghifaodoaaGreat.A
open Go
set_option linter.unusedSimpArgs false
set_option linter.unusedVariables false
section
variable {F : Nat → Option RF} {Z : CallF} {h : Heap} {xs : List Shard}
theorem row_book {h3 : Heap} {y : Cell} {fr : List Nat} {i : Nat} (o : On h h3) (hf : h.floor ≤ h.next) (w : SlR 16 Shard.RI h3 y xs fr) (f : Fre h fr) (hi : i < xs.length) :
    ∃ xb xf pb pf rows, h3.get y.sid = some rows ∧ rows[i]? = some [.int .u64 xs[i].lo, .int .u64 xs[i].hi, .int .i64 xs[i].state, .int .i64 xs[i].epoch, xb, xf] ∧ SlR 11 (Fl Account.enc) h3 xb xs[i].book.list pb ∧ SlR 9 (Fl Fin.enc) h3 xf xs[i].finished pf ∧
      ∀ g1 yb l fb, On h3 g1 → SlR 11 (Fl Account.enc) g1 yb l fb → fb.Nodup → (Fre h3 fb ∨ fb = pb) →
        ∃ g2 fq rows2, storeP g1 y.sid i 4 [yb] = some g2 ∧ On h g2 ∧ Fre h fq ∧ SlR 16 Shard.RI g2 y (xs.set i { xs[i] with book := ⟨l⟩ }) fq ∧ SlR 11 (Fl Account.enc) g2 yb l fb ∧
          g2.get y.sid = some rows2 ∧ rows2[i]? = some [.int .u64 xs[i].lo, .int .u64 xs[i].hi, .int .i64 xs[i].state, .int .i64 xs[i].epoch, yb, xf] := by
  obtain ⟨r, f1, rows, hR, hin, nf1, hs, hns, hsl, hg, hr, hil, _, fin⟩ := w.turnF Shard.okI f.nd hi
  obtain ⟨xb, pb, xf, pf, rfl, rfl, wb, wf⟩ := hR
  obtain ⟨n1, n2, n3⟩ := List.nodup_append.1 nf1
  have ltw := w.lt Shard.okI
  refine ⟨xb, xf, pb, pf, rows, hg, hr, wb, wf, fun g1 yb l fb o1 u nd hfb => ?_⟩
  have hg1 : g1.get y.sid = some rows := (o1.ext.2 _ hsl).trans hg
  have hfl1 : g1.floor ≤ y.sid := by rw [o1.fl, o.fl]; exact Nat.le_trans hf (f.lo _ hs)
  have hst := storeP_at (h := g1) (id := y.sid) (i := i) (j := 4) (new := [yb]) hfl1 hg1 hr (r := [.int .u64 xs[i].lo, .int .u64 xs[i].hi, .int .i64 xs[i].state, .int .i64 xs[i].epoch, yb, xf]) rfl
  have hfbs : ∀ id, id ∈ fb → id ≠ y.sid := fun id hid e => by
    subst e
    rcases hfb with hfb | rfl
    · have := hfb.lo _ hid; omega
    · exact hns (List.mem_append_left _ hid)
  have hpfs : ∀ id, id ∈ pf → id ≠ y.sid := fun id hid e => by
    subst e; exact hns (List.mem_append_right _ hid)
  have hdis : ∀ id, id ∈ fb → id ∉ pf := fun id h1 h2 => by
    rcases hfb with hfb | rfl
    · have := hfb.lo _ h1; have := ltw id (hin id (List.mem_append_right _ h2)); omega
    · exact n3 id h1 id h2 rfl
  have u2 := u.mv (h' := g1.put y.sid (rows.set i [.int .u64 xs[i].lo, .int .u64 xs[i].hi, .int .i64 xs[i].state, .int .i64 xs[i].epoch, yb, xf])) (Fl.ok _) (Nat.le_refl _) fun id hid => put_ne _ (hfbs id hid)
  have wf1 := (wf.on (Fl.ok _) o1).mv (h' := g1.put y.sid (rows.set i [.int .u64 xs[i].lo, .int .u64 xs[i].hi, .int .i64 xs[i].state, .int .i64 xs[i].epoch, yb, xf])) (Fl.ok _) (Nat.le_refl _) fun id hid => put_ne _ (hpfs id hid)
  obtain ⟨fq, w4, nq, sub⟩ := fin (g1.put y.sid (rows.set i [.int .u64 xs[i].lo, .int .u64 xs[i].hi, .int .i64 xs[i].state, .int .i64 xs[i].epoch, yb, xf])) _ { xs[i] with book := ⟨l⟩ } (fb ++ pf) o1.ext.1
    (fun id h1 h2 h4 => by rw [put_ne _ h2]; exact o1.ext.2 id (ltw id h1)) (by simp [Heap.put])
    ⟨yb, fb, xf, pf, rfl, rfl, u2, wf1⟩
    (List.nodup_append.2 ⟨nd, n2, fun a ha b hb e => by subst e; exact hdis a ha hb⟩)
    (fun id hid => by
      rcases List.mem_append.1 hid with h1 | h1
      · rcases hfb with hfb | rfl
        · exact .inr fun hc => by have := ltw id hc; have := hfb.lo _ h1; omega
        · exact .inl (List.mem_append_left _ h1)
      · exact .inl (List.mem_append_right _ h1))
  refine ⟨_, fq, _, hst, (o.trans o1).turned (Mk.put _ _ _) ⟨fun id hid => by simp only [List.mem_singleton] at hid; subst hid; exact f.lo _ hs, by simp⟩, ⟨fun id hid => ?_, nq⟩, w4, u2, by simp [Heap.put]; rfl, by rw [List.getElem?_set_self hil]⟩
  rcases sub id hid with h1 | h1
  · exact f.lo id h1
  · rcases List.mem_append.1 h1 with h1 | h1
    · rcases hfb with hfb | rfl
      · have := hfb.lo _ h1; have := o.ext.1; omega
      · exact f.lo id (hin id (List.mem_append_left _ h1))
    · exact f.lo id (hin id (List.mem_append_right _ h1))
theorem row_fin {g2 : Heap} {y yb xf : Cell} {fr : List Nat} {i : Nat} {rows : List (List Cell)} (o : On h g2) (hf : h.floor ≤ h.next) (w : SlR 16 Shard.RI g2 y xs fr) (f : Fre h fr) (hi : i < xs.length) (sm : xs[i].finished.length ≤ 1048576)
    (hg : g2.get y.sid = some rows) (hr : rows[i]? = some [.int .u64 xs[i].lo, .int .u64 xs[i].hi, .int .i64 xs[i].state, .int .i64 xs[i].epoch, yb, xf]) (t : Fin) :
    ∃ xf' g3 g4 g5 fq fb, appF (g2.push [t.enc]) 9 16 xf (.sl 9 g2.next 0 1) = some (xf', g3) ∧ storeP g3 y.sid i 5 [xf'] = some g4 ∧ (∀ j n, loadP g4 y.sid i j n = cut? [.int .u64 xs[i].lo, .int .u64 xs[i].hi, .int .i64 xs[i].state, .int .i64 xs[i].epoch, yb, xf'] j n) ∧
      sortF 9 267 [.c xf', .c (.fn 267 [])] g4 = some (.tup [], g5) ∧ On h g5 ∧ Fre h fq ∧ SlR 16 Shard.RI g5 y (xs.set i { xs[i] with finished := sortFins (xs[i].finished ++ [t]) }) fq ∧ SlR 11 (Fl Account.enc) g5 yb xs[i].book.list fb := by
  obtain ⟨r, f1, rows', hR, hin, nf1, hs, hns, hsl, hg', hr', hil, _, fin⟩ := w.turnF Shard.okI f.nd hi
  rw [hg] at hg'; injection hg' with hg'; subst hg'
  rw [hr] at hr'; injection hr' with hr'; subst hr'
  obtain ⟨xb, pb, xf2, pf, hre, rfl, wb, wf⟩ := hR
  simp only [List.cons.injEq, true_and, and_true] at hre
  obtain ⟨rfl, rfl⟩ := hre
  obtain ⟨n1, n2, n3⟩ := List.nodup_append.1 nf1
  have ltw := w.lt Shard.okI
  have own := f.own o hf
  obtain ⟨xf', g3, f', e1, w1, re⟩ := wf.snoc1 n2 (fun id hid => own id (hin id (List.mem_append_right _ hid))) (o.le hf) (bytes := 16) (by omega) (by omega) t
  have ff : Fre h pf := ⟨fun id hid => f.lo id (hin id (List.mem_append_right _ hid)), n2⟩
  have o3 := re.on o ff
  have ff' := re.fre o ff
  have hnf : y.sid ∉ pf := fun hc => hns (List.mem_append_right _ hc)
  have hg3 : g3.get y.sid = some rows := (re.get _ hsl hnf).trans hg
  have hfl3 : g3.floor ≤ y.sid := by rw [o3.fl]; exact Nat.le_trans hf (f.lo _ hs)
  have hst := storeP_at (h := g3) (id := y.sid) (i := i) (j := 5) (new := [xf']) hfl3 hg3 hr (r := [.int .u64 xs[i].lo, .int .u64 xs[i].hi, .int .i64 xs[i].state, .int .i64 xs[i].epoch, yb, xf']) rfl
  have hf's : ∀ id, id ∈ f' → id ≠ y.sid := fun id hid e => by
    subst e
    rcases re.of _ hid with h1 | h1
    · exact hnf h1
    · omega
  have w2 := w1.mv (h' := g3.put y.sid (rows.set i [.int .u64 xs[i].lo, .int .u64 xs[i].hi, .int .i64 xs[i].state, .int .i64 xs[i].epoch, yb, xf'])) (Fl.ok _) (Nat.le_refl _) fun id hid => put_ne _ (hf's id hid)
  have o4 := o3.turned (Mk.put g3 y.sid (rows.set i [.int .u64 xs[i].lo, .int .u64 xs[i].hi, .int .i64 xs[i].state, .int .i64 xs[i].epoch, yb, xf'])) ⟨fun id hid => by simp only [List.mem_singleton] at hid; subst hid; exact f.lo _ hs, by simp⟩
  obtain ⟨g5, e3, w3, m3⟩ := w2.sort (ff'.own o4 hf) (by rw [List.length_append]; simp; omega)
  have o5 := o4.turned m3 ff'
  have hpbf : ∀ id, id ∈ pb → id ∉ f' := fun id h1 h2 => by
    rcases re.of _ h2 with h3 | h3
    · exact n3 id h1 id h3 rfl
    · have := ltw id (hin id (List.mem_append_left _ h1)); omega
  have hpbs : ∀ id, id ∈ pb → id ≠ y.sid := fun id hid e => by
    subst e; exact hns (List.mem_append_left _ hid)
  have wb5 := wb.mv (h' := g5) (Fl.ok _) (by rw [m3.next]; exact re.le) fun id hid => by
    rw [m3.get id (hpbf id hid), put_ne _ (hpbs id hid)]
    exact re.get id (ltw id (hin id (List.mem_append_left _ hid))) fun hc => n3 id hid id hc rfl
  obtain ⟨fq, w4, nq, sub⟩ := fin g5 [.int .u64 xs[i].lo, .int .u64 xs[i].hi, .int .i64 xs[i].state, .int .i64 xs[i].epoch, yb, xf'] { xs[i] with finished := sortFins (xs[i].finished ++ [t]) } (pb ++ f') (by rw [m3.next]; exact re.le)
    (fun id h1 h2 h4 => by
      rw [List.mem_append, not_or] at h4
      have h5 : id ∉ f' := fun hc => by
        rcases re.of _ hc with h6 | h6
        · exact h4.2 h6
        · have := ltw id h1; omega
      rw [m3.get id h5, put_ne _ h2]
      exact re.get id (ltw id h1) h4.2)
    (by rw [m3.get y.sid (fun hc => hf's _ hc rfl)]; simp [Heap.put])
    ⟨yb, pb, xf', f', rfl, rfl, wb5, w3⟩
    (List.nodup_append.2 ⟨n1, ff'.nd, fun a ha b hb e => by subst e; exact hpbf a ha hb⟩)
    (fun id hid => by
      rcases List.mem_append.1 hid with h1 | h1
      · exact .inl (List.mem_append_left _ h1)
      · rcases re.of _ h1 with h2 | h2
        · exact .inl (List.mem_append_right _ h2)
        · exact .inr fun hc => by have := ltw id hc; omega)
  refine ⟨xf', g3, _, g5, fq, pb, e1, hst, fun j n => loadP_put hil _ j n, e3, o5, ⟨fun id hid => ?_, nq⟩, w4, wb5⟩
  rcases sub id hid with h1 | h1
  · exact f.lo id h1
  · rcases List.mem_append.1 h1 with h1 | h1
    · exact f.lo id (hin id (List.mem_append_left _ h1))
    · exact ff'.lo id h1
end
end Go.Proofs.YtahkgghifaodoaaGreat.A
namespace Go.Proofs.YtahkgghifaodoaaGreat.A
open Go
set_option linter.unusedSimpArgs false
set_option linter.unusedVariables false
theorem bookDo_srt2 {xs : List Account} (g : bookOk xs = true) (id : Int) {f : Act} (hf : ∀ a : Account, a.id = id → (f a).2.id = a.id) : Srt (bookDo xs id f).1 := by
  have hs := book_srt g
  rcases acc_found g id with ⟨q1, _⟩ | ⟨i, q1, _, _, hi, q5⟩
  · rw [do_none g q1]; exact hs
  · rw [do_at g q1]
    cases ((f (Account.at_ xs i)).1 == 0)
    · exact hs
    · cases ((f (Account.at_ xs i)).2.tx == -1)
      · have h := hf _ q5
        simp only [cond_true, cond_false]
        rw [Account.at_get hi] at h ⊢
        exact set_srt hs hi h
      · exact List.Pairwise.sublist (List.eraseIdx_sublist xs i) hs
 where
  set_srt {xs : List Account} (g : Srt xs) {i : Nat} (hi : i < xs.length) {a : Account} (ha : a.id = xs[i].id) : Srt (xs.set i a) := by
    rw [Srt, List.pairwise_iff_getElem] at g ⊢
    intro j k hj hk hjk
    rw [List.length_set] at hj hk
    rw [List.getElem_set, List.getElem_set]
    split <;> split <;> rename_i h1 h2
    · omega
    · subst h1; rw [ha]; exact g i k hj hk hjk
    · subst h2; rw [ha]; exact g j i hj hk hjk
    · exact g j k hj hk hjk
theorem bookTx_srt {xs : List Account} (g : bookOk xs = true) (id tx : Int) {f : Act} (hf : ∀ a : Account, a.id = id → (f a).2.id = a.id) : Srt (bookTx xs id tx f).1 := by
  by_cases h : tx < 1
  · rw [btx_bad h]; exact book_srt g
  · rw [btx_do h]; exact bookDo_srt2 g id hf
theorem openBook_srt2 {xs : List Account} (g : bookOk xs = true) (id : Int) : Srt (openBook xs id).1 := by
  rcases acc_found g id with ⟨q1, _⟩ | ⟨i, q1, _⟩
  · cases h : ((xs.length : Int) == 40) with
    | true => rw [open_full g q1 h]; exact book_srt g
    | false => rw [open_new g q1 h]; exact plusAcc_srt g q1
  · rw [open_there g q1]; exact book_srt g
theorem closeF_id2 (a : Account) : (closeF a).2.id = a.id := by unfold closeF; split <;> (try split) <;> rfl
theorem depF_id2 (m : Int) (a : Account) : (depF m a).2.id = a.id := by unfold depF; split <;> (try split) <;> rfl
theorem witF_id2 (m : Int) (a : Account) : (witF m a).2.id = a.id := by unfold witF; split <;> (try split) <;> rfl
theorem lockDF_id (m tx : Int) (a : Account) : (lockDF m tx a).2.id = a.id := by unfold lockDF; split <;> (try split) <;> rfl
theorem lockCF_id (m tx : Int) (a : Account) : (lockCF m tx a).2.id = a.id := by unfold lockCF; split <;> (try split) <;> rfl
theorem settleF_id {id tx : Int} {a : Account} (h : a.id = id) : (settleF id tx a).2.id = a.id := by unfold settleF; split <;> simp [h]
theorem releaseF_id {id tx : Int} {a : Account} (h : a.id = id) : (releaseF id tx a).2.id = a.id := by unfold releaseF; split <;> simp [h]
theorem doBook_srt {xs : List Account} (g : bookOk xs = true) (q : Request) : Srt (doBook xs q).1 := by
  unfold doBook
  cases (q.op == 0) <;> simp only [cond_true, cond_false]
  case true => exact openBook_srt2 g _
  cases (q.op == 1) <;> simp only [cond_true, cond_false]
  case true => exact bookDo_srt2 g _ fun a _ => closeF_id2 a
  cases (q.op == 2) <;> simp only [cond_true, cond_false]
  case true => exact bookDo_srt2 g _ fun a _ => depF_id2 _ a
  cases (q.op == 3) <;> simp only [cond_true, cond_false]
  case true => exact bookDo_srt2 g _ fun a _ => witF_id2 _ a
  cases (q.op == 4) <;> simp only [cond_true, cond_false]
  case true => exact bookTx_srt g _ _ fun a _ => lockDF_id _ _ a
  cases (q.op == 5) <;> simp only [cond_true, cond_false]
  case true => exact bookTx_srt g _ _ fun a _ => lockCF_id _ _ a
  cases (q.op == 6) <;> simp only [cond_true, cond_false]
  case true => exact bookTx_srt g _ _ fun a h => settleF_id h
  cases (q.op == 7) <;> simp only [cond_true, cond_false]
  case true => exact bookTx_srt g _ _ fun a h => releaseF_id h
  exact book_srt g
theorem SlR.nodup {tag : Nat} {α : Type} {enc : α → List Cell} {h : Heap} {x : Cell} {xs : List α} {fp : List Nat} (w : SlR tag (Fl enc) h x xs fp) : fp.Nodup := by
  rcases w.flat with ⟨_, _, rfl⟩ | ⟨_, _, _, rfl⟩
  · exact List.nodup_nil
  · simp
def DoStoreAt (F : Nat → Option RF) (Z : CallF) (h : Heap) (cs : List Cell) (s : Store) (q : Request) : Prop :=
  ∃ cs' h' fq, call F Z 387 [.agg cs, .agg q.enc] h = some (.tup [.agg cs', .c (.int .i64 (doStore s q).2.1), .c (.int .u64 (doStore s q).2.2)], h') ∧ On h h' ∧ Store.RI h' cs' (doStore s q).1 fq ∧ Fre h fq
end Go.Proofs.YtahkgghifaodoaaGreat.A
namespace Go.Proofs.YtahkgghifaodoaaGreat.A
open Go
set_option linter.unusedSimpArgs false
set_option linter.unusedVariables false
section
variable {F : Nat → Option RF} {Z : CallF} {h : Heap} {cs : List Cell} {fp : List Nat} {s : Store}
set_option maxHeartbeats 4000000 in
set_option maxRecDepth 8000 in
theorem do_op0 (k : KI F) (hL : Has F tLibslicesIndexFuncimplShardimplShard) (pri : PrimAt F Z 343 (insF 11 40)) (prd : PrimAt F Z 348 (delF 11)) (prs : PrimAt F Z 375 (sortF 9 267)) (hf : h.floor ≤ h.next) (v : Store.RI h cs s fp) (qe qi qa qt : Int) (okq : (⟨qe, 0, qi, qa, qt⟩ : Request).Ok) (ok : s.Ok) (sm : s.Small) :
    DoStoreAt F Z h cs s ⟨qe, 0, qi, qa, qt⟩ := by
  unfold DoStoreAt
  obtain ⟨l1, l2, l3⟩ := Store.lenI v
  obtain ⟨cs1, h1, fr, e1, o1, v1, f1⟩ := copyStore_c (Z := Z) k hf v sm
  obtain ⟨h2, e2, o2⟩ := isStore_run (Z := Z) k (Store.okI.on v o1) ok
  obtain ⟨h3, e3, o3⟩ := shardWith_on (Z := Z) k.i13 hL (Store.okI.on (Store.okI.on v o1) o2) qi
  have o12 := o1.trans o2
  have o13 := o12.trans o3
  obtain ⟨y, p, rfl, hp, w12⟩ := Store.okI.on v1 o2
  subst hp
  have w := w12.on Shard.okI o3
  rw [call_run F Z (k.i13.lk (g := 387) rfl) _ _ rfl]
  simp only [Request.enc]
  cases hg : s.good with
  | false =>
    rw [hg] at e2
    rw [dost_bad (by simp [hg])]
    simp only [rn, RO.dst, lk, drop, Nat.reduceBEq, Nat.reduceAdd, Nat.reduceLeDiff, ↓reduceIte, reduceCtorEq, Int.reduceLT, Int.reduceLE, Int.reduceGT, Int.reduceGE, Int.reduceBEq, Int.reduceBNe, Int.reduceEq, Int.reduceNe, Int.reduceNeg, l1, l2, l3, e1, e2]
    exact ⟨_, _, _, rfl, o12, ⟨y, _, rfl, rfl, w12⟩, f1⟩
  | true =>
  rw [hg] at e2
  have hin : (s.good && inR (⟨qe, 0, qi, qa, qt⟩ : Request).op 0 8) = true := by rw [hg]; rfl
  have v3 := Store.okI.on v o13
  obtain ⟨x, p, rfl, hp, wx⟩ := v3
  subst hp
  rcases wx.found (fun t => decide (t.lo ≤ qi) && decide (qi ≤ t.hi)) with q | ⟨i, q, hi, hpi, _⟩
  · change findId s.shards qi = -1 at q
    rw [dost_away hin q]
    rw [q] at e3
    simp only [rn, RO.dst, lk, drop, Nat.reduceBEq, Nat.reduceAdd, Nat.reduceLeDiff, ↓reduceIte, reduceCtorEq, Int.reduceLT, Int.reduceLE, Int.reduceGT, Int.reduceGE, Int.reduceBEq, Int.reduceBNe, Int.reduceEq, Int.reduceNe, Int.reduceNeg, l1, l2, l3, e1, e2, e3]
    exact ⟨_, _, _, rfl, o13, ⟨y, _, rfl, rfl, w⟩, f1⟩
  change findId s.shards qi = (i : Int) at q
  rw [q] at e3
  rw [dost_at hin q, Shard.at_get hi]
  have g0 : ¬ (i : Int) < 0 := by omega
  have hyi := w.idx hi
  have okX := ok.shards _ (List.getElem_mem hi)
  have smX := sm.2 _ (List.getElem_mem hi)
  have smf : s.shards[i].finished.length ≤ 1048576 := smX.2
  have smb : s.shards[i].book.list.length ≤ 1048576 := smX.1
  have hbk : bookOk s.shards[i].book.list = true := by
    have := Store.fit_at hg hi
    simp only [Store.fits, Bool.and_eq_true, Shard.at_get hi, Shard.good, Shard.head] at this
    exact this.1.1.2.2.2.1
  obtain ⟨xb, xf, pb, pf, rows, hgr, hrr, wb, wf, fin⟩ := row_book o13 hf w f1 hi
  have hld := fun j n => loadP_row hgr hrr j n
  have eC := containsFin_run (F := F) (Z := Z) k.li k.lc (wf.up (Fl.ok _) h3.next) ⟨qt, qi⟩
  simp only [Fin.enc] at eC
  have hlen := wf.len
  obtain ⟨yb, hq, fb, eB, oB, uB, dB⟩ := doBook_c (Z := Z) (h := ⟨h3.next, h3.next, h3.get⟩) k.i10 k.i13 pri prd (Nat.le_refl _) (wb.up (Fl.ok _) h3.next) ⟨qe, 0, qi, qa, qt⟩ okq okX.book.list smb hbk
  simp only [Request.enc] at eB
  obtain ⟨g1, hg1⟩ : ∃ g1, Heap.mk hq.next h3.floor hq.get = g1 := ⟨_, rfl⟩
  have oB1 : On h3 g1 := by rw [← hg1]; exact ⟨⟨oB.ext.1, oB.ext.2⟩, rfl⟩
  have uB1 : SlR 11 (Fl Account.enc) g1 yb (doBook s.shards[i].book.list ⟨qe, 0, qi, qa, qt⟩).1 fb := by rw [← hg1]; exact uB.up (Fl.ok _) h3.floor
  have ndB : fb.Nodup := by
    rcases dB with d | ⟨_, d⟩
    · exact d.nd
    · rw [d]; exact wb.nodup
  obtain ⟨g2, fqs, rows2, st, og2, fq2, w2, u2, hg2, hr2⟩ := fin g1 yb _ fb oB1 uB1 ndB (by
    rcases dB with d | ⟨_, d⟩
    · exact .inl ⟨d.lo, d.nd⟩
    · exact .inr d)
  cases cA : (s.shards[i].epoch != qe) with
  | true =>
    have cA' : (s.shards[i].epoch == qe) = false := by simpa using cA
    have hR : refuse s.shards[i] ⟨qe, 0, qi, qa, qt⟩ = 9 := by simp [refuse, inR, Request.ends, Request.fin, cA']
    rw [hR]
    simp only [show ((9 : Int) == 0) = false from rfl, cond_false]
    simp only [rn, RO.dst, lk, drop, Nat.reduceBEq, Nat.reduceAdd, Nat.reduceLeDiff, ↓reduceIte, reduceCtorEq, Int.reduceLT, Int.reduceLE, Int.reduceGT, Int.reduceGE, Int.reduceBEq, Int.reduceBNe, Int.reduceEq, Int.reduceNe, Int.reduceNeg, l1, l2, l3, e1, e2, e3, hyi, hld, eC, hlen, g0, cA]
    exact ⟨_, _, _, rfl, o13, ⟨y, _, rfl, rfl, w⟩, f1⟩
  | false =>
  have cA' : (s.shards[i].epoch == qe) = true := by simpa using cA
  cases cB : (s.shards[i].state == 1) with
  | true =>
    have hR : refuse s.shards[i] ⟨qe, 0, qi, qa, qt⟩ = 10 := by simp [refuse, inR, Request.ends, Request.fin, cA', cB]
    rw [hR]
    simp only [show ((10 : Int) == 0) = false from rfl, cond_false]
    simp only [rn, RO.dst, lk, drop, Nat.reduceBEq, Nat.reduceAdd, Nat.reduceLeDiff, ↓reduceIte, reduceCtorEq, Int.reduceLT, Int.reduceLE, Int.reduceGT, Int.reduceGE, Int.reduceBEq, Int.reduceBNe, Int.reduceEq, Int.reduceNe, Int.reduceNeg, l1, l2, l3, e1, e2, e3, hyi, hld, eC, hlen, g0, cA, cB]
    exact ⟨_, _, _, rfl, o13, ⟨y, _, rfl, rfl, w⟩, f1⟩
  | false =>
  have hR : refuse s.shards[i] ⟨qe, 0, qi, qa, qt⟩ = 0 := by simp [refuse, inR, Request.ends, Request.fin, cA', cB]
  rw [hR]
  simp only [beq_self_eq_true, cond_true]
  have hS : doShard s.shards[i] ⟨qe, 0, qi, qa, qt⟩ = { s.shards[i] with book := ⟨(doBook s.shards[i].book.list ⟨qe, 0, qi, qa, qt⟩).1⟩ } := by simp [doShard, Request.ends, Request.fin, cA', cB]
  rw [hS]
  have eA := accountOf_run (Z := Z) k.i10 u2 qi
  rcases val_cases (a := qi) (doBook_srt hbk ⟨qe, 0, qi, qa, qt⟩) with ⟨v1, v2⟩ | ⟨v1, v2, v3, v4⟩ | ⟨v1, j, v2, v3, v4, v5, v6⟩
  · have v1' : ((doBook s.shards[i].book.list ⟨qe, 0, qi, qa, qt⟩).2 == 0) = false := by simpa using v1
    rw [v2]
    simp only [rn, RO.dst, lk, drop, Nat.reduceBEq, Nat.reduceAdd, Nat.reduceLeDiff, ↓reduceIte, reduceCtorEq, Int.reduceLT, Int.reduceLE, Int.reduceGT, Int.reduceGE, Int.reduceBEq, Int.reduceBNe, Int.reduceEq, Int.reduceNe, Int.reduceNeg, l1, l2, l3, e1, e2, e3, hyi, hld, eC, hlen, g0, cA, cB, eB, hg1, st, eA, v1']
    exact ⟨_, _, _, rfl, og2, ⟨y, _, rfl, rfl, w2⟩, fq2⟩
  · have v1' : ((doBook s.shards[i].book.list ⟨qe, 0, qi, qa, qt⟩).2 == 0) = true := by simpa using v1
    rw [v4]
    rw [v2] at eA
    simp only [rn, RO.dst, lk, drop, Nat.reduceBEq, Nat.reduceAdd, Nat.reduceLeDiff, ↓reduceIte, reduceCtorEq, Int.reduceLT, Int.reduceLE, Int.reduceGT, Int.reduceGE, Int.reduceBEq, Int.reduceBNe, Int.reduceEq, Int.reduceNe, Int.reduceNeg, l1, l2, l3, e1, e2, e3, hyi, hld, eC, hlen, g0, cA, cB, eB, hg1, st, eA, v1']
    exact ⟨_, _, _, rfl, og2, ⟨y, _, rfl, rfl, w2⟩, fq2⟩
  · have v1' : ((doBook s.shards[i].book.list ⟨qe, 0, qi, qa, qt⟩).2 == 0) = true := by simpa using v1
    rw [v6, Account.at_get v5]
    rw [v2, v3] at eA
    have hx := u2.idx v5
    have hl := u2.load v5
    simp only [Account.enc] at hl
    simp only [rn, RO.dst, lk, drop, Nat.reduceBEq, Nat.reduceAdd, Nat.reduceLeDiff, ↓reduceIte, reduceCtorEq, Int.reduceLT, Int.reduceLE, Int.reduceGT, Int.reduceGE, Int.reduceBEq, Int.reduceBNe, Int.reduceEq, Int.reduceNe, Int.reduceNeg, l1, l2, l3, e1, e2, e3, hyi, hld, eC, hlen, g0, cA, cB, eB, hg1, st, eA, v1', hx, hl]
    exact ⟨_, _, _, rfl, og2, ⟨y, _, rfl, rfl, w2⟩, fq2⟩
set_option maxHeartbeats 4000000 in
set_option maxRecDepth 8000 in
theorem do_op1 (k : KI F) (hL : Has F tLibslicesIndexFuncimplShardimplShard) (pri : PrimAt F Z 343 (insF 11 40)) (prd : PrimAt F Z 348 (delF 11)) (prs : PrimAt F Z 375 (sortF 9 267)) (hf : h.floor ≤ h.next) (v : Store.RI h cs s fp) (qe qi qa qt : Int) (okq : (⟨qe, 1, qi, qa, qt⟩ : Request).Ok) (ok : s.Ok) (sm : s.Small) :
    DoStoreAt F Z h cs s ⟨qe, 1, qi, qa, qt⟩ := by
  unfold DoStoreAt
  obtain ⟨l1, l2, l3⟩ := Store.lenI v
  obtain ⟨cs1, h1, fr, e1, o1, v1, f1⟩ := copyStore_c (Z := Z) k hf v sm
  obtain ⟨h2, e2, o2⟩ := isStore_run (Z := Z) k (Store.okI.on v o1) ok
  obtain ⟨h3, e3, o3⟩ := shardWith_on (Z := Z) k.i13 hL (Store.okI.on (Store.okI.on v o1) o2) qi
  have o12 := o1.trans o2
  have o13 := o12.trans o3
  obtain ⟨y, p, rfl, hp, w12⟩ := Store.okI.on v1 o2
  subst hp
  have w := w12.on Shard.okI o3
  rw [call_run F Z (k.i13.lk (g := 387) rfl) _ _ rfl]
  simp only [Request.enc]
  cases hg : s.good with
  | false =>
    rw [hg] at e2
    rw [dost_bad (by simp [hg])]
    simp only [rn, RO.dst, lk, drop, Nat.reduceBEq, Nat.reduceAdd, Nat.reduceLeDiff, ↓reduceIte, reduceCtorEq, Int.reduceLT, Int.reduceLE, Int.reduceGT, Int.reduceGE, Int.reduceBEq, Int.reduceBNe, Int.reduceEq, Int.reduceNe, Int.reduceNeg, l1, l2, l3, e1, e2]
    exact ⟨_, _, _, rfl, o12, ⟨y, _, rfl, rfl, w12⟩, f1⟩
  | true =>
  rw [hg] at e2
  have hin : (s.good && inR (⟨qe, 1, qi, qa, qt⟩ : Request).op 0 8) = true := by rw [hg]; rfl
  have v3 := Store.okI.on v o13
  obtain ⟨x, p, rfl, hp, wx⟩ := v3
  subst hp
  rcases wx.found (fun t => decide (t.lo ≤ qi) && decide (qi ≤ t.hi)) with q | ⟨i, q, hi, hpi, _⟩
  · change findId s.shards qi = -1 at q
    rw [dost_away hin q]
    rw [q] at e3
    simp only [rn, RO.dst, lk, drop, Nat.reduceBEq, Nat.reduceAdd, Nat.reduceLeDiff, ↓reduceIte, reduceCtorEq, Int.reduceLT, Int.reduceLE, Int.reduceGT, Int.reduceGE, Int.reduceBEq, Int.reduceBNe, Int.reduceEq, Int.reduceNe, Int.reduceNeg, l1, l2, l3, e1, e2, e3]
    exact ⟨_, _, _, rfl, o13, ⟨y, _, rfl, rfl, w⟩, f1⟩
  change findId s.shards qi = (i : Int) at q
  rw [q] at e3
  rw [dost_at hin q, Shard.at_get hi]
  have g0 : ¬ (i : Int) < 0 := by omega
  have hyi := w.idx hi
  have okX := ok.shards _ (List.getElem_mem hi)
  have smX := sm.2 _ (List.getElem_mem hi)
  have smf : s.shards[i].finished.length ≤ 1048576 := smX.2
  have smb : s.shards[i].book.list.length ≤ 1048576 := smX.1
  have hbk : bookOk s.shards[i].book.list = true := by
    have := Store.fit_at hg hi
    simp only [Store.fits, Bool.and_eq_true, Shard.at_get hi, Shard.good, Shard.head] at this
    exact this.1.1.2.2.2.1
  obtain ⟨xb, xf, pb, pf, rows, hgr, hrr, wb, wf, fin⟩ := row_book o13 hf w f1 hi
  have hld := fun j n => loadP_row hgr hrr j n
  have eC := containsFin_run (F := F) (Z := Z) k.li k.lc (wf.up (Fl.ok _) h3.next) ⟨qt, qi⟩
  simp only [Fin.enc] at eC
  have hlen := wf.len
  obtain ⟨yb, hq, fb, eB, oB, uB, dB⟩ := doBook_c (Z := Z) (h := ⟨h3.next, h3.next, h3.get⟩) k.i10 k.i13 pri prd (Nat.le_refl _) (wb.up (Fl.ok _) h3.next) ⟨qe, 1, qi, qa, qt⟩ okq okX.book.list smb hbk
  simp only [Request.enc] at eB
  obtain ⟨g1, hg1⟩ : ∃ g1, Heap.mk hq.next h3.floor hq.get = g1 := ⟨_, rfl⟩
  have oB1 : On h3 g1 := by rw [← hg1]; exact ⟨⟨oB.ext.1, oB.ext.2⟩, rfl⟩
  have uB1 : SlR 11 (Fl Account.enc) g1 yb (doBook s.shards[i].book.list ⟨qe, 1, qi, qa, qt⟩).1 fb := by rw [← hg1]; exact uB.up (Fl.ok _) h3.floor
  have ndB : fb.Nodup := by
    rcases dB with d | ⟨_, d⟩
    · exact d.nd
    · rw [d]; exact wb.nodup
  obtain ⟨g2, fqs, rows2, st, og2, fq2, w2, u2, hg2, hr2⟩ := fin g1 yb _ fb oB1 uB1 ndB (by
    rcases dB with d | ⟨_, d⟩
    · exact .inl ⟨d.lo, d.nd⟩
    · exact .inr d)
  cases cA : (s.shards[i].epoch != qe) with
  | true =>
    have cA' : (s.shards[i].epoch == qe) = false := by simpa using cA
    have hR : refuse s.shards[i] ⟨qe, 1, qi, qa, qt⟩ = 9 := by simp [refuse, inR, Request.ends, Request.fin, cA']
    rw [hR]
    simp only [show ((9 : Int) == 0) = false from rfl, cond_false]
    simp only [rn, RO.dst, lk, drop, Nat.reduceBEq, Nat.reduceAdd, Nat.reduceLeDiff, ↓reduceIte, reduceCtorEq, Int.reduceLT, Int.reduceLE, Int.reduceGT, Int.reduceGE, Int.reduceBEq, Int.reduceBNe, Int.reduceEq, Int.reduceNe, Int.reduceNeg, l1, l2, l3, e1, e2, e3, hyi, hld, eC, hlen, g0, cA]
    exact ⟨_, _, _, rfl, o13, ⟨y, _, rfl, rfl, w⟩, f1⟩
  | false =>
  have cA' : (s.shards[i].epoch == qe) = true := by simpa using cA
  cases cB : (s.shards[i].state == 1) with
  | true =>
    have hR : refuse s.shards[i] ⟨qe, 1, qi, qa, qt⟩ = 10 := by simp [refuse, inR, Request.ends, Request.fin, cA', cB]
    rw [hR]
    simp only [show ((10 : Int) == 0) = false from rfl, cond_false]
    simp only [rn, RO.dst, lk, drop, Nat.reduceBEq, Nat.reduceAdd, Nat.reduceLeDiff, ↓reduceIte, reduceCtorEq, Int.reduceLT, Int.reduceLE, Int.reduceGT, Int.reduceGE, Int.reduceBEq, Int.reduceBNe, Int.reduceEq, Int.reduceNe, Int.reduceNeg, l1, l2, l3, e1, e2, e3, hyi, hld, eC, hlen, g0, cA, cB]
    exact ⟨_, _, _, rfl, o13, ⟨y, _, rfl, rfl, w⟩, f1⟩
  | false =>
  have hR : refuse s.shards[i] ⟨qe, 1, qi, qa, qt⟩ = 0 := by simp [refuse, inR, Request.ends, Request.fin, cA', cB]
  rw [hR]
  simp only [beq_self_eq_true, cond_true]
  have hS : doShard s.shards[i] ⟨qe, 1, qi, qa, qt⟩ = { s.shards[i] with book := ⟨(doBook s.shards[i].book.list ⟨qe, 1, qi, qa, qt⟩).1⟩ } := by simp [doShard, Request.ends, Request.fin, cA', cB]
  rw [hS]
  have eA := accountOf_run (Z := Z) k.i10 u2 qi
  rcases val_cases (a := qi) (doBook_srt hbk ⟨qe, 1, qi, qa, qt⟩) with ⟨v1, v2⟩ | ⟨v1, v2, v3, v4⟩ | ⟨v1, j, v2, v3, v4, v5, v6⟩
  · have v1' : ((doBook s.shards[i].book.list ⟨qe, 1, qi, qa, qt⟩).2 == 0) = false := by simpa using v1
    rw [v2]
    simp only [rn, RO.dst, lk, drop, Nat.reduceBEq, Nat.reduceAdd, Nat.reduceLeDiff, ↓reduceIte, reduceCtorEq, Int.reduceLT, Int.reduceLE, Int.reduceGT, Int.reduceGE, Int.reduceBEq, Int.reduceBNe, Int.reduceEq, Int.reduceNe, Int.reduceNeg, l1, l2, l3, e1, e2, e3, hyi, hld, eC, hlen, g0, cA, cB, eB, hg1, st, eA, v1']
    exact ⟨_, _, _, rfl, og2, ⟨y, _, rfl, rfl, w2⟩, fq2⟩
  · have v1' : ((doBook s.shards[i].book.list ⟨qe, 1, qi, qa, qt⟩).2 == 0) = true := by simpa using v1
    rw [v4]
    rw [v2] at eA
    simp only [rn, RO.dst, lk, drop, Nat.reduceBEq, Nat.reduceAdd, Nat.reduceLeDiff, ↓reduceIte, reduceCtorEq, Int.reduceLT, Int.reduceLE, Int.reduceGT, Int.reduceGE, Int.reduceBEq, Int.reduceBNe, Int.reduceEq, Int.reduceNe, Int.reduceNeg, l1, l2, l3, e1, e2, e3, hyi, hld, eC, hlen, g0, cA, cB, eB, hg1, st, eA, v1']
    exact ⟨_, _, _, rfl, og2, ⟨y, _, rfl, rfl, w2⟩, fq2⟩
  · have v1' : ((doBook s.shards[i].book.list ⟨qe, 1, qi, qa, qt⟩).2 == 0) = true := by simpa using v1
    rw [v6, Account.at_get v5]
    rw [v2, v3] at eA
    have hx := u2.idx v5
    have hl := u2.load v5
    simp only [Account.enc] at hl
    simp only [rn, RO.dst, lk, drop, Nat.reduceBEq, Nat.reduceAdd, Nat.reduceLeDiff, ↓reduceIte, reduceCtorEq, Int.reduceLT, Int.reduceLE, Int.reduceGT, Int.reduceGE, Int.reduceBEq, Int.reduceBNe, Int.reduceEq, Int.reduceNe, Int.reduceNeg, l1, l2, l3, e1, e2, e3, hyi, hld, eC, hlen, g0, cA, cB, eB, hg1, st, eA, v1', hx, hl]
    exact ⟨_, _, _, rfl, og2, ⟨y, _, rfl, rfl, w2⟩, fq2⟩
set_option maxHeartbeats 4000000 in
set_option maxRecDepth 8000 in
theorem do_op2 (k : KI F) (hL : Has F tLibslicesIndexFuncimplShardimplShard) (pri : PrimAt F Z 343 (insF 11 40)) (prd : PrimAt F Z 348 (delF 11)) (prs : PrimAt F Z 375 (sortF 9 267)) (hf : h.floor ≤ h.next) (v : Store.RI h cs s fp) (qe qi qa qt : Int) (okq : (⟨qe, 2, qi, qa, qt⟩ : Request).Ok) (ok : s.Ok) (sm : s.Small) :
    DoStoreAt F Z h cs s ⟨qe, 2, qi, qa, qt⟩ := by
  unfold DoStoreAt
  obtain ⟨l1, l2, l3⟩ := Store.lenI v
  obtain ⟨cs1, h1, fr, e1, o1, v1, f1⟩ := copyStore_c (Z := Z) k hf v sm
  obtain ⟨h2, e2, o2⟩ := isStore_run (Z := Z) k (Store.okI.on v o1) ok
  obtain ⟨h3, e3, o3⟩ := shardWith_on (Z := Z) k.i13 hL (Store.okI.on (Store.okI.on v o1) o2) qi
  have o12 := o1.trans o2
  have o13 := o12.trans o3
  obtain ⟨y, p, rfl, hp, w12⟩ := Store.okI.on v1 o2
  subst hp
  have w := w12.on Shard.okI o3
  rw [call_run F Z (k.i13.lk (g := 387) rfl) _ _ rfl]
  simp only [Request.enc]
  cases hg : s.good with
  | false =>
    rw [hg] at e2
    rw [dost_bad (by simp [hg])]
    simp only [rn, RO.dst, lk, drop, Nat.reduceBEq, Nat.reduceAdd, Nat.reduceLeDiff, ↓reduceIte, reduceCtorEq, Int.reduceLT, Int.reduceLE, Int.reduceGT, Int.reduceGE, Int.reduceBEq, Int.reduceBNe, Int.reduceEq, Int.reduceNe, Int.reduceNeg, l1, l2, l3, e1, e2]
    exact ⟨_, _, _, rfl, o12, ⟨y, _, rfl, rfl, w12⟩, f1⟩
  | true =>
  rw [hg] at e2
  have hin : (s.good && inR (⟨qe, 2, qi, qa, qt⟩ : Request).op 0 8) = true := by rw [hg]; rfl
  have v3 := Store.okI.on v o13
  obtain ⟨x, p, rfl, hp, wx⟩ := v3
  subst hp
  rcases wx.found (fun t => decide (t.lo ≤ qi) && decide (qi ≤ t.hi)) with q | ⟨i, q, hi, hpi, _⟩
  · change findId s.shards qi = -1 at q
    rw [dost_away hin q]
    rw [q] at e3
    simp only [rn, RO.dst, lk, drop, Nat.reduceBEq, Nat.reduceAdd, Nat.reduceLeDiff, ↓reduceIte, reduceCtorEq, Int.reduceLT, Int.reduceLE, Int.reduceGT, Int.reduceGE, Int.reduceBEq, Int.reduceBNe, Int.reduceEq, Int.reduceNe, Int.reduceNeg, l1, l2, l3, e1, e2, e3]
    exact ⟨_, _, _, rfl, o13, ⟨y, _, rfl, rfl, w⟩, f1⟩
  change findId s.shards qi = (i : Int) at q
  rw [q] at e3
  rw [dost_at hin q, Shard.at_get hi]
  have g0 : ¬ (i : Int) < 0 := by omega
  have hyi := w.idx hi
  have okX := ok.shards _ (List.getElem_mem hi)
  have smX := sm.2 _ (List.getElem_mem hi)
  have smf : s.shards[i].finished.length ≤ 1048576 := smX.2
  have smb : s.shards[i].book.list.length ≤ 1048576 := smX.1
  have hbk : bookOk s.shards[i].book.list = true := by
    have := Store.fit_at hg hi
    simp only [Store.fits, Bool.and_eq_true, Shard.at_get hi, Shard.good, Shard.head] at this
    exact this.1.1.2.2.2.1
  obtain ⟨xb, xf, pb, pf, rows, hgr, hrr, wb, wf, fin⟩ := row_book o13 hf w f1 hi
  have hld := fun j n => loadP_row hgr hrr j n
  have eC := containsFin_run (F := F) (Z := Z) k.li k.lc (wf.up (Fl.ok _) h3.next) ⟨qt, qi⟩
  simp only [Fin.enc] at eC
  have hlen := wf.len
  obtain ⟨yb, hq, fb, eB, oB, uB, dB⟩ := doBook_c (Z := Z) (h := ⟨h3.next, h3.next, h3.get⟩) k.i10 k.i13 pri prd (Nat.le_refl _) (wb.up (Fl.ok _) h3.next) ⟨qe, 2, qi, qa, qt⟩ okq okX.book.list smb hbk
  simp only [Request.enc] at eB
  obtain ⟨g1, hg1⟩ : ∃ g1, Heap.mk hq.next h3.floor hq.get = g1 := ⟨_, rfl⟩
  have oB1 : On h3 g1 := by rw [← hg1]; exact ⟨⟨oB.ext.1, oB.ext.2⟩, rfl⟩
  have uB1 : SlR 11 (Fl Account.enc) g1 yb (doBook s.shards[i].book.list ⟨qe, 2, qi, qa, qt⟩).1 fb := by rw [← hg1]; exact uB.up (Fl.ok _) h3.floor
  have ndB : fb.Nodup := by
    rcases dB with d | ⟨_, d⟩
    · exact d.nd
    · rw [d]; exact wb.nodup
  obtain ⟨g2, fqs, rows2, st, og2, fq2, w2, u2, hg2, hr2⟩ := fin g1 yb _ fb oB1 uB1 ndB (by
    rcases dB with d | ⟨_, d⟩
    · exact .inl ⟨d.lo, d.nd⟩
    · exact .inr d)
  cases cA : (s.shards[i].epoch != qe) with
  | true =>
    have cA' : (s.shards[i].epoch == qe) = false := by simpa using cA
    have hR : refuse s.shards[i] ⟨qe, 2, qi, qa, qt⟩ = 9 := by simp [refuse, inR, Request.ends, Request.fin, cA']
    rw [hR]
    simp only [show ((9 : Int) == 0) = false from rfl, cond_false]
    simp only [rn, RO.dst, lk, drop, Nat.reduceBEq, Nat.reduceAdd, Nat.reduceLeDiff, ↓reduceIte, reduceCtorEq, Int.reduceLT, Int.reduceLE, Int.reduceGT, Int.reduceGE, Int.reduceBEq, Int.reduceBNe, Int.reduceEq, Int.reduceNe, Int.reduceNeg, l1, l2, l3, e1, e2, e3, hyi, hld, eC, hlen, g0, cA]
    exact ⟨_, _, _, rfl, o13, ⟨y, _, rfl, rfl, w⟩, f1⟩
  | false =>
  have cA' : (s.shards[i].epoch == qe) = true := by simpa using cA
  cases cB : (s.shards[i].state == 1) with
  | true =>
    have hR : refuse s.shards[i] ⟨qe, 2, qi, qa, qt⟩ = 10 := by simp [refuse, inR, Request.ends, Request.fin, cA', cB]
    rw [hR]
    simp only [show ((10 : Int) == 0) = false from rfl, cond_false]
    simp only [rn, RO.dst, lk, drop, Nat.reduceBEq, Nat.reduceAdd, Nat.reduceLeDiff, ↓reduceIte, reduceCtorEq, Int.reduceLT, Int.reduceLE, Int.reduceGT, Int.reduceGE, Int.reduceBEq, Int.reduceBNe, Int.reduceEq, Int.reduceNe, Int.reduceNeg, l1, l2, l3, e1, e2, e3, hyi, hld, eC, hlen, g0, cA, cB]
    exact ⟨_, _, _, rfl, o13, ⟨y, _, rfl, rfl, w⟩, f1⟩
  | false =>
  have hR : refuse s.shards[i] ⟨qe, 2, qi, qa, qt⟩ = 0 := by simp [refuse, inR, Request.ends, Request.fin, cA', cB]
  rw [hR]
  simp only [beq_self_eq_true, cond_true]
  have hS : doShard s.shards[i] ⟨qe, 2, qi, qa, qt⟩ = { s.shards[i] with book := ⟨(doBook s.shards[i].book.list ⟨qe, 2, qi, qa, qt⟩).1⟩ } := by simp [doShard, Request.ends, Request.fin, cA', cB]
  rw [hS]
  have eA := accountOf_run (Z := Z) k.i10 u2 qi
  rcases val_cases (a := qi) (doBook_srt hbk ⟨qe, 2, qi, qa, qt⟩) with ⟨v1, v2⟩ | ⟨v1, v2, v3, v4⟩ | ⟨v1, j, v2, v3, v4, v5, v6⟩
  · have v1' : ((doBook s.shards[i].book.list ⟨qe, 2, qi, qa, qt⟩).2 == 0) = false := by simpa using v1
    rw [v2]
    simp only [rn, RO.dst, lk, drop, Nat.reduceBEq, Nat.reduceAdd, Nat.reduceLeDiff, ↓reduceIte, reduceCtorEq, Int.reduceLT, Int.reduceLE, Int.reduceGT, Int.reduceGE, Int.reduceBEq, Int.reduceBNe, Int.reduceEq, Int.reduceNe, Int.reduceNeg, l1, l2, l3, e1, e2, e3, hyi, hld, eC, hlen, g0, cA, cB, eB, hg1, st, eA, v1']
    exact ⟨_, _, _, rfl, og2, ⟨y, _, rfl, rfl, w2⟩, fq2⟩
  · have v1' : ((doBook s.shards[i].book.list ⟨qe, 2, qi, qa, qt⟩).2 == 0) = true := by simpa using v1
    rw [v4]
    rw [v2] at eA
    simp only [rn, RO.dst, lk, drop, Nat.reduceBEq, Nat.reduceAdd, Nat.reduceLeDiff, ↓reduceIte, reduceCtorEq, Int.reduceLT, Int.reduceLE, Int.reduceGT, Int.reduceGE, Int.reduceBEq, Int.reduceBNe, Int.reduceEq, Int.reduceNe, Int.reduceNeg, l1, l2, l3, e1, e2, e3, hyi, hld, eC, hlen, g0, cA, cB, eB, hg1, st, eA, v1']
    exact ⟨_, _, _, rfl, og2, ⟨y, _, rfl, rfl, w2⟩, fq2⟩
  · have v1' : ((doBook s.shards[i].book.list ⟨qe, 2, qi, qa, qt⟩).2 == 0) = true := by simpa using v1
    rw [v6, Account.at_get v5]
    rw [v2, v3] at eA
    have hx := u2.idx v5
    have hl := u2.load v5
    simp only [Account.enc] at hl
    simp only [rn, RO.dst, lk, drop, Nat.reduceBEq, Nat.reduceAdd, Nat.reduceLeDiff, ↓reduceIte, reduceCtorEq, Int.reduceLT, Int.reduceLE, Int.reduceGT, Int.reduceGE, Int.reduceBEq, Int.reduceBNe, Int.reduceEq, Int.reduceNe, Int.reduceNeg, l1, l2, l3, e1, e2, e3, hyi, hld, eC, hlen, g0, cA, cB, eB, hg1, st, eA, v1', hx, hl]
    exact ⟨_, _, _, rfl, og2, ⟨y, _, rfl, rfl, w2⟩, fq2⟩
end
end Go.Proofs.YtahkgghifaodoaaGreat.A
namespace Go.Proofs.YtahkgghifaodoaaGreat.A
open Go
set_option linter.unusedSimpArgs false
set_option linter.unusedVariables false
section
variable {F : Nat → Option RF} {Z : CallF} {h : Heap} {cs : List Cell} {fp : List Nat} {s : Store}
set_option maxHeartbeats 4000000 in
set_option maxRecDepth 8000 in
theorem do_op3 (k : KI F) (hL : Has F tLibslicesIndexFuncimplShardimplShard) (pri : PrimAt F Z 343 (insF 11 40)) (prd : PrimAt F Z 348 (delF 11)) (prs : PrimAt F Z 375 (sortF 9 267)) (hf : h.floor ≤ h.next) (v : Store.RI h cs s fp) (qe qi qa qt : Int) (okq : (⟨qe, 3, qi, qa, qt⟩ : Request).Ok) (ok : s.Ok) (sm : s.Small) :
    DoStoreAt F Z h cs s ⟨qe, 3, qi, qa, qt⟩ := by
  unfold DoStoreAt
  obtain ⟨l1, l2, l3⟩ := Store.lenI v
  obtain ⟨cs1, h1, fr, e1, o1, v1, f1⟩ := copyStore_c (Z := Z) k hf v sm
  obtain ⟨h2, e2, o2⟩ := isStore_run (Z := Z) k (Store.okI.on v o1) ok
  obtain ⟨h3, e3, o3⟩ := shardWith_on (Z := Z) k.i13 hL (Store.okI.on (Store.okI.on v o1) o2) qi
  have o12 := o1.trans o2
  have o13 := o12.trans o3
  obtain ⟨y, p, rfl, hp, w12⟩ := Store.okI.on v1 o2
  subst hp
  have w := w12.on Shard.okI o3
  rw [call_run F Z (k.i13.lk (g := 387) rfl) _ _ rfl]
  simp only [Request.enc]
  cases hg : s.good with
  | false =>
    rw [hg] at e2
    rw [dost_bad (by simp [hg])]
    simp only [rn, RO.dst, lk, drop, Nat.reduceBEq, Nat.reduceAdd, Nat.reduceLeDiff, ↓reduceIte, reduceCtorEq, Int.reduceLT, Int.reduceLE, Int.reduceGT, Int.reduceGE, Int.reduceBEq, Int.reduceBNe, Int.reduceEq, Int.reduceNe, Int.reduceNeg, l1, l2, l3, e1, e2]
    exact ⟨_, _, _, rfl, o12, ⟨y, _, rfl, rfl, w12⟩, f1⟩
  | true =>
  rw [hg] at e2
  have hin : (s.good && inR (⟨qe, 3, qi, qa, qt⟩ : Request).op 0 8) = true := by rw [hg]; rfl
  have v3 := Store.okI.on v o13
  obtain ⟨x, p, rfl, hp, wx⟩ := v3
  subst hp
  rcases wx.found (fun t => decide (t.lo ≤ qi) && decide (qi ≤ t.hi)) with q | ⟨i, q, hi, hpi, _⟩
  · change findId s.shards qi = -1 at q
    rw [dost_away hin q]
    rw [q] at e3
    simp only [rn, RO.dst, lk, drop, Nat.reduceBEq, Nat.reduceAdd, Nat.reduceLeDiff, ↓reduceIte, reduceCtorEq, Int.reduceLT, Int.reduceLE, Int.reduceGT, Int.reduceGE, Int.reduceBEq, Int.reduceBNe, Int.reduceEq, Int.reduceNe, Int.reduceNeg, l1, l2, l3, e1, e2, e3]
    exact ⟨_, _, _, rfl, o13, ⟨y, _, rfl, rfl, w⟩, f1⟩
  change findId s.shards qi = (i : Int) at q
  rw [q] at e3
  rw [dost_at hin q, Shard.at_get hi]
  have g0 : ¬ (i : Int) < 0 := by omega
  have hyi := w.idx hi
  have okX := ok.shards _ (List.getElem_mem hi)
  have smX := sm.2 _ (List.getElem_mem hi)
  have smf : s.shards[i].finished.length ≤ 1048576 := smX.2
  have smb : s.shards[i].book.list.length ≤ 1048576 := smX.1
  have hbk : bookOk s.shards[i].book.list = true := by
    have := Store.fit_at hg hi
    simp only [Store.fits, Bool.and_eq_true, Shard.at_get hi, Shard.good, Shard.head] at this
    exact this.1.1.2.2.2.1
  obtain ⟨xb, xf, pb, pf, rows, hgr, hrr, wb, wf, fin⟩ := row_book o13 hf w f1 hi
  have hld := fun j n => loadP_row hgr hrr j n
  have eC := containsFin_run (F := F) (Z := Z) k.li k.lc (wf.up (Fl.ok _) h3.next) ⟨qt, qi⟩
  simp only [Fin.enc] at eC
  have hlen := wf.len
  obtain ⟨yb, hq, fb, eB, oB, uB, dB⟩ := doBook_c (Z := Z) (h := ⟨h3.next, h3.next, h3.get⟩) k.i10 k.i13 pri prd (Nat.le_refl _) (wb.up (Fl.ok _) h3.next) ⟨qe, 3, qi, qa, qt⟩ okq okX.book.list smb hbk
  simp only [Request.enc] at eB
  obtain ⟨g1, hg1⟩ : ∃ g1, Heap.mk hq.next h3.floor hq.get = g1 := ⟨_, rfl⟩
  have oB1 : On h3 g1 := by rw [← hg1]; exact ⟨⟨oB.ext.1, oB.ext.2⟩, rfl⟩
  have uB1 : SlR 11 (Fl Account.enc) g1 yb (doBook s.shards[i].book.list ⟨qe, 3, qi, qa, qt⟩).1 fb := by rw [← hg1]; exact uB.up (Fl.ok _) h3.floor
  have ndB : fb.Nodup := by
    rcases dB with d | ⟨_, d⟩
    · exact d.nd
    · rw [d]; exact wb.nodup
  obtain ⟨g2, fqs, rows2, st, og2, fq2, w2, u2, hg2, hr2⟩ := fin g1 yb _ fb oB1 uB1 ndB (by
    rcases dB with d | ⟨_, d⟩
    · exact .inl ⟨d.lo, d.nd⟩
    · exact .inr d)
  cases cA : (s.shards[i].epoch != qe) with
  | true =>
    have cA' : (s.shards[i].epoch == qe) = false := by simpa using cA
    have hR : refuse s.shards[i] ⟨qe, 3, qi, qa, qt⟩ = 9 := by simp [refuse, inR, Request.ends, Request.fin, cA']
    rw [hR]
    simp only [show ((9 : Int) == 0) = false from rfl, cond_false]
    simp only [rn, RO.dst, lk, drop, Nat.reduceBEq, Nat.reduceAdd, Nat.reduceLeDiff, ↓reduceIte, reduceCtorEq, Int.reduceLT, Int.reduceLE, Int.reduceGT, Int.reduceGE, Int.reduceBEq, Int.reduceBNe, Int.reduceEq, Int.reduceNe, Int.reduceNeg, l1, l2, l3, e1, e2, e3, hyi, hld, eC, hlen, g0, cA]
    exact ⟨_, _, _, rfl, o13, ⟨y, _, rfl, rfl, w⟩, f1⟩
  | false =>
  have cA' : (s.shards[i].epoch == qe) = true := by simpa using cA
  cases cB : (s.shards[i].state == 1) with
  | true =>
    have hR : refuse s.shards[i] ⟨qe, 3, qi, qa, qt⟩ = 10 := by simp [refuse, inR, Request.ends, Request.fin, cA', cB]
    rw [hR]
    simp only [show ((10 : Int) == 0) = false from rfl, cond_false]
    simp only [rn, RO.dst, lk, drop, Nat.reduceBEq, Nat.reduceAdd, Nat.reduceLeDiff, ↓reduceIte, reduceCtorEq, Int.reduceLT, Int.reduceLE, Int.reduceGT, Int.reduceGE, Int.reduceBEq, Int.reduceBNe, Int.reduceEq, Int.reduceNe, Int.reduceNeg, l1, l2, l3, e1, e2, e3, hyi, hld, eC, hlen, g0, cA, cB]
    exact ⟨_, _, _, rfl, o13, ⟨y, _, rfl, rfl, w⟩, f1⟩
  | false =>
  have hR : refuse s.shards[i] ⟨qe, 3, qi, qa, qt⟩ = 0 := by simp [refuse, inR, Request.ends, Request.fin, cA', cB]
  rw [hR]
  simp only [beq_self_eq_true, cond_true]
  have hS : doShard s.shards[i] ⟨qe, 3, qi, qa, qt⟩ = { s.shards[i] with book := ⟨(doBook s.shards[i].book.list ⟨qe, 3, qi, qa, qt⟩).1⟩ } := by simp [doShard, Request.ends, Request.fin, cA', cB]
  rw [hS]
  have eA := accountOf_run (Z := Z) k.i10 u2 qi
  rcases val_cases (a := qi) (doBook_srt hbk ⟨qe, 3, qi, qa, qt⟩) with ⟨v1, v2⟩ | ⟨v1, v2, v3, v4⟩ | ⟨v1, j, v2, v3, v4, v5, v6⟩
  · have v1' : ((doBook s.shards[i].book.list ⟨qe, 3, qi, qa, qt⟩).2 == 0) = false := by simpa using v1
    rw [v2]
    simp only [rn, RO.dst, lk, drop, Nat.reduceBEq, Nat.reduceAdd, Nat.reduceLeDiff, ↓reduceIte, reduceCtorEq, Int.reduceLT, Int.reduceLE, Int.reduceGT, Int.reduceGE, Int.reduceBEq, Int.reduceBNe, Int.reduceEq, Int.reduceNe, Int.reduceNeg, l1, l2, l3, e1, e2, e3, hyi, hld, eC, hlen, g0, cA, cB, eB, hg1, st, eA, v1']
    exact ⟨_, _, _, rfl, og2, ⟨y, _, rfl, rfl, w2⟩, fq2⟩
  · have v1' : ((doBook s.shards[i].book.list ⟨qe, 3, qi, qa, qt⟩).2 == 0) = true := by simpa using v1
    rw [v4]
    rw [v2] at eA
    simp only [rn, RO.dst, lk, drop, Nat.reduceBEq, Nat.reduceAdd, Nat.reduceLeDiff, ↓reduceIte, reduceCtorEq, Int.reduceLT, Int.reduceLE, Int.reduceGT, Int.reduceGE, Int.reduceBEq, Int.reduceBNe, Int.reduceEq, Int.reduceNe, Int.reduceNeg, l1, l2, l3, e1, e2, e3, hyi, hld, eC, hlen, g0, cA, cB, eB, hg1, st, eA, v1']
    exact ⟨_, _, _, rfl, og2, ⟨y, _, rfl, rfl, w2⟩, fq2⟩
  · have v1' : ((doBook s.shards[i].book.list ⟨qe, 3, qi, qa, qt⟩).2 == 0) = true := by simpa using v1
    rw [v6, Account.at_get v5]
    rw [v2, v3] at eA
    have hx := u2.idx v5
    have hl := u2.load v5
    simp only [Account.enc] at hl
    simp only [rn, RO.dst, lk, drop, Nat.reduceBEq, Nat.reduceAdd, Nat.reduceLeDiff, ↓reduceIte, reduceCtorEq, Int.reduceLT, Int.reduceLE, Int.reduceGT, Int.reduceGE, Int.reduceBEq, Int.reduceBNe, Int.reduceEq, Int.reduceNe, Int.reduceNeg, l1, l2, l3, e1, e2, e3, hyi, hld, eC, hlen, g0, cA, cB, eB, hg1, st, eA, v1', hx, hl]
    exact ⟨_, _, _, rfl, og2, ⟨y, _, rfl, rfl, w2⟩, fq2⟩
set_option maxHeartbeats 4000000 in
set_option maxRecDepth 8000 in
theorem do_op4 (k : KI F) (hL : Has F tLibslicesIndexFuncimplShardimplShard) (pri : PrimAt F Z 343 (insF 11 40)) (prd : PrimAt F Z 348 (delF 11)) (prs : PrimAt F Z 375 (sortF 9 267)) (hf : h.floor ≤ h.next) (v : Store.RI h cs s fp) (qe qi qa qt : Int) (okq : (⟨qe, 4, qi, qa, qt⟩ : Request).Ok) (ok : s.Ok) (sm : s.Small) :
    DoStoreAt F Z h cs s ⟨qe, 4, qi, qa, qt⟩ := by
  unfold DoStoreAt
  obtain ⟨l1, l2, l3⟩ := Store.lenI v
  obtain ⟨cs1, h1, fr, e1, o1, v1, f1⟩ := copyStore_c (Z := Z) k hf v sm
  obtain ⟨h2, e2, o2⟩ := isStore_run (Z := Z) k (Store.okI.on v o1) ok
  obtain ⟨h3, e3, o3⟩ := shardWith_on (Z := Z) k.i13 hL (Store.okI.on (Store.okI.on v o1) o2) qi
  have o12 := o1.trans o2
  have o13 := o12.trans o3
  obtain ⟨y, p, rfl, hp, w12⟩ := Store.okI.on v1 o2
  subst hp
  have w := w12.on Shard.okI o3
  rw [call_run F Z (k.i13.lk (g := 387) rfl) _ _ rfl]
  simp only [Request.enc]
  cases hg : s.good with
  | false =>
    rw [hg] at e2
    rw [dost_bad (by simp [hg])]
    simp only [rn, RO.dst, lk, drop, Nat.reduceBEq, Nat.reduceAdd, Nat.reduceLeDiff, ↓reduceIte, reduceCtorEq, Int.reduceLT, Int.reduceLE, Int.reduceGT, Int.reduceGE, Int.reduceBEq, Int.reduceBNe, Int.reduceEq, Int.reduceNe, Int.reduceNeg, l1, l2, l3, e1, e2]
    exact ⟨_, _, _, rfl, o12, ⟨y, _, rfl, rfl, w12⟩, f1⟩
  | true =>
  rw [hg] at e2
  have hin : (s.good && inR (⟨qe, 4, qi, qa, qt⟩ : Request).op 0 8) = true := by rw [hg]; rfl
  have v3 := Store.okI.on v o13
  obtain ⟨x, p, rfl, hp, wx⟩ := v3
  subst hp
  rcases wx.found (fun t => decide (t.lo ≤ qi) && decide (qi ≤ t.hi)) with q | ⟨i, q, hi, hpi, _⟩
  · change findId s.shards qi = -1 at q
    rw [dost_away hin q]
    rw [q] at e3
    simp only [rn, RO.dst, lk, drop, Nat.reduceBEq, Nat.reduceAdd, Nat.reduceLeDiff, ↓reduceIte, reduceCtorEq, Int.reduceLT, Int.reduceLE, Int.reduceGT, Int.reduceGE, Int.reduceBEq, Int.reduceBNe, Int.reduceEq, Int.reduceNe, Int.reduceNeg, l1, l2, l3, e1, e2, e3]
    exact ⟨_, _, _, rfl, o13, ⟨y, _, rfl, rfl, w⟩, f1⟩
  change findId s.shards qi = (i : Int) at q
  rw [q] at e3
  rw [dost_at hin q, Shard.at_get hi]
  have g0 : ¬ (i : Int) < 0 := by omega
  have hyi := w.idx hi
  have okX := ok.shards _ (List.getElem_mem hi)
  have smX := sm.2 _ (List.getElem_mem hi)
  have smf : s.shards[i].finished.length ≤ 1048576 := smX.2
  have smb : s.shards[i].book.list.length ≤ 1048576 := smX.1
  have hbk : bookOk s.shards[i].book.list = true := by
    have := Store.fit_at hg hi
    simp only [Store.fits, Bool.and_eq_true, Shard.at_get hi, Shard.good, Shard.head] at this
    exact this.1.1.2.2.2.1
  obtain ⟨xb, xf, pb, pf, rows, hgr, hrr, wb, wf, fin⟩ := row_book o13 hf w f1 hi
  have hld := fun j n => loadP_row hgr hrr j n
  have eC := containsFin_run (F := F) (Z := Z) k.li k.lc (wf.up (Fl.ok _) h3.next) ⟨qt, qi⟩
  simp only [Fin.enc] at eC
  have hlen := wf.len
  obtain ⟨yb, hq, fb, eB, oB, uB, dB⟩ := doBook_c (Z := Z) (h := ⟨h3.next, h3.next, h3.get⟩) k.i10 k.i13 pri prd (Nat.le_refl _) (wb.up (Fl.ok _) h3.next) ⟨qe, 4, qi, qa, qt⟩ okq okX.book.list smb hbk
  simp only [Request.enc] at eB
  obtain ⟨g1, hg1⟩ : ∃ g1, Heap.mk hq.next h3.floor hq.get = g1 := ⟨_, rfl⟩
  have oB1 : On h3 g1 := by rw [← hg1]; exact ⟨⟨oB.ext.1, oB.ext.2⟩, rfl⟩
  have uB1 : SlR 11 (Fl Account.enc) g1 yb (doBook s.shards[i].book.list ⟨qe, 4, qi, qa, qt⟩).1 fb := by rw [← hg1]; exact uB.up (Fl.ok _) h3.floor
  have ndB : fb.Nodup := by
    rcases dB with d | ⟨_, d⟩
    · exact d.nd
    · rw [d]; exact wb.nodup
  obtain ⟨g2, fqs, rows2, st, og2, fq2, w2, u2, hg2, hr2⟩ := fin g1 yb _ fb oB1 uB1 ndB (by
    rcases dB with d | ⟨_, d⟩
    · exact .inl ⟨d.lo, d.nd⟩
    · exact .inr d)
  cases cA : (s.shards[i].epoch != qe) with
  | true =>
    have cA' : (s.shards[i].epoch == qe) = false := by simpa using cA
    have hR : refuse s.shards[i] ⟨qe, 4, qi, qa, qt⟩ = 9 := by simp [refuse, inR, Request.ends, Request.fin, cA']
    rw [hR]
    simp only [show ((9 : Int) == 0) = false from rfl, cond_false]
    simp only [rn, RO.dst, lk, drop, Nat.reduceBEq, Nat.reduceAdd, Nat.reduceLeDiff, ↓reduceIte, reduceCtorEq, Int.reduceLT, Int.reduceLE, Int.reduceGT, Int.reduceGE, Int.reduceBEq, Int.reduceBNe, Int.reduceEq, Int.reduceNe, Int.reduceNeg, l1, l2, l3, e1, e2, e3, hyi, hld, eC, hlen, g0, cA]
    exact ⟨_, _, _, rfl, o13, ⟨y, _, rfl, rfl, w⟩, f1⟩
  | false =>
  have cA' : (s.shards[i].epoch == qe) = true := by simpa using cA
  cases cB : (s.shards[i].state == 1) with
  | true =>
    have hR : refuse s.shards[i] ⟨qe, 4, qi, qa, qt⟩ = 10 := by simp [refuse, inR, Request.ends, Request.fin, cA', cB]
    rw [hR]
    simp only [show ((10 : Int) == 0) = false from rfl, cond_false]
    simp only [rn, RO.dst, lk, drop, Nat.reduceBEq, Nat.reduceAdd, Nat.reduceLeDiff, ↓reduceIte, reduceCtorEq, Int.reduceLT, Int.reduceLE, Int.reduceGT, Int.reduceGE, Int.reduceBEq, Int.reduceBNe, Int.reduceEq, Int.reduceNe, Int.reduceNeg, l1, l2, l3, e1, e2, e3, hyi, hld, eC, hlen, g0, cA, cB]
    exact ⟨_, _, _, rfl, o13, ⟨y, _, rfl, rfl, w⟩, f1⟩
  | false =>
  by_cases cC : qt < 1
  · have hR : refuse s.shards[i] ⟨qe, 4, qi, qa, qt⟩ = 11 := by simp [refuse, inR, Request.ends, Request.fin, cA', cB, cC]
    rw [hR]
    simp only [show ((11 : Int) == 0) = false from rfl, cond_false]
    simp only [rn, RO.dst, lk, drop, Nat.reduceBEq, Nat.reduceAdd, Nat.reduceLeDiff, ↓reduceIte, reduceCtorEq, Int.reduceLT, Int.reduceLE, Int.reduceGT, Int.reduceGE, Int.reduceBEq, Int.reduceBNe, Int.reduceEq, Int.reduceNe, Int.reduceNeg, l1, l2, l3, e1, e2, e3, hyi, hld, eC, hlen, g0, cA, cB, cC]
    exact ⟨_, _, _, rfl, o13, ⟨y, _, rfl, rfl, w⟩, f1⟩
  cases cD : decide ((⟨qt, qi⟩ : Fin) ∈ s.shards[i].finished) with
  | true =>
    have cD' : (⟨qt, qi⟩ : Fin) ∈ s.shards[i].finished := of_decide_eq_true cD
    have hR : refuse s.shards[i] ⟨qe, 4, qi, qa, qt⟩ = 12 := by simp [refuse, inR, Request.ends, Request.fin, cA', cB, cC, cD']
    rw [hR]
    simp only [show ((12 : Int) == 0) = false from rfl, cond_false]
    simp only [rn, RO.dst, lk, drop, Nat.reduceBEq, Nat.reduceAdd, Nat.reduceLeDiff, ↓reduceIte, reduceCtorEq, Int.reduceLT, Int.reduceLE, Int.reduceGT, Int.reduceGE, Int.reduceBEq, Int.reduceBNe, Int.reduceEq, Int.reduceNe, Int.reduceNeg, l1, l2, l3, e1, e2, e3, hyi, hld, eC, hlen, g0, cA, cB, cC, cD]
    exact ⟨_, _, _, rfl, o13, ⟨y, _, rfl, rfl, w⟩, f1⟩
  | false =>
  have cD' : ¬ (⟨qt, qi⟩ : Fin) ∈ s.shards[i].finished := of_decide_eq_false cD
  have hR : refuse s.shards[i] ⟨qe, 4, qi, qa, qt⟩ = 0 := by simp [refuse, inR, Request.ends, Request.fin, cA', cB, cC, cD']
  rw [hR]
  simp only [beq_self_eq_true, cond_true]
  have hS : doShard s.shards[i] ⟨qe, 4, qi, qa, qt⟩ = { s.shards[i] with book := ⟨(doBook s.shards[i].book.list ⟨qe, 4, qi, qa, qt⟩).1⟩ } := by simp [doShard, Request.ends, Request.fin, cA', cB, cC, cD']
  rw [hS]
  have eA := accountOf_run (Z := Z) k.i10 u2 qi
  rcases val_cases (a := qi) (doBook_srt hbk ⟨qe, 4, qi, qa, qt⟩) with ⟨v1, v2⟩ | ⟨v1, v2, v3, v4⟩ | ⟨v1, j, v2, v3, v4, v5, v6⟩
  · have v1' : ((doBook s.shards[i].book.list ⟨qe, 4, qi, qa, qt⟩).2 == 0) = false := by simpa using v1
    rw [v2]
    simp only [rn, RO.dst, lk, drop, Nat.reduceBEq, Nat.reduceAdd, Nat.reduceLeDiff, ↓reduceIte, reduceCtorEq, Int.reduceLT, Int.reduceLE, Int.reduceGT, Int.reduceGE, Int.reduceBEq, Int.reduceBNe, Int.reduceEq, Int.reduceNe, Int.reduceNeg, l1, l2, l3, e1, e2, e3, hyi, hld, eC, hlen, g0, cA, cB, cC, cD, eB, hg1, st, eA, v1']
    exact ⟨_, _, _, rfl, og2, ⟨y, _, rfl, rfl, w2⟩, fq2⟩
  · have v1' : ((doBook s.shards[i].book.list ⟨qe, 4, qi, qa, qt⟩).2 == 0) = true := by simpa using v1
    rw [v4]
    rw [v2] at eA
    simp only [rn, RO.dst, lk, drop, Nat.reduceBEq, Nat.reduceAdd, Nat.reduceLeDiff, ↓reduceIte, reduceCtorEq, Int.reduceLT, Int.reduceLE, Int.reduceGT, Int.reduceGE, Int.reduceBEq, Int.reduceBNe, Int.reduceEq, Int.reduceNe, Int.reduceNeg, l1, l2, l3, e1, e2, e3, hyi, hld, eC, hlen, g0, cA, cB, cC, cD, eB, hg1, st, eA, v1']
    exact ⟨_, _, _, rfl, og2, ⟨y, _, rfl, rfl, w2⟩, fq2⟩
  · have v1' : ((doBook s.shards[i].book.list ⟨qe, 4, qi, qa, qt⟩).2 == 0) = true := by simpa using v1
    rw [v6, Account.at_get v5]
    rw [v2, v3] at eA
    have hx := u2.idx v5
    have hl := u2.load v5
    simp only [Account.enc] at hl
    simp only [rn, RO.dst, lk, drop, Nat.reduceBEq, Nat.reduceAdd, Nat.reduceLeDiff, ↓reduceIte, reduceCtorEq, Int.reduceLT, Int.reduceLE, Int.reduceGT, Int.reduceGE, Int.reduceBEq, Int.reduceBNe, Int.reduceEq, Int.reduceNe, Int.reduceNeg, l1, l2, l3, e1, e2, e3, hyi, hld, eC, hlen, g0, cA, cB, cC, cD, eB, hg1, st, eA, v1', hx, hl]
    exact ⟨_, _, _, rfl, og2, ⟨y, _, rfl, rfl, w2⟩, fq2⟩
set_option maxHeartbeats 4000000 in
set_option maxRecDepth 8000 in
theorem do_op5 (k : KI F) (hL : Has F tLibslicesIndexFuncimplShardimplShard) (pri : PrimAt F Z 343 (insF 11 40)) (prd : PrimAt F Z 348 (delF 11)) (prs : PrimAt F Z 375 (sortF 9 267)) (hf : h.floor ≤ h.next) (v : Store.RI h cs s fp) (qe qi qa qt : Int) (okq : (⟨qe, 5, qi, qa, qt⟩ : Request).Ok) (ok : s.Ok) (sm : s.Small) :
    DoStoreAt F Z h cs s ⟨qe, 5, qi, qa, qt⟩ := by
  unfold DoStoreAt
  obtain ⟨l1, l2, l3⟩ := Store.lenI v
  obtain ⟨cs1, h1, fr, e1, o1, v1, f1⟩ := copyStore_c (Z := Z) k hf v sm
  obtain ⟨h2, e2, o2⟩ := isStore_run (Z := Z) k (Store.okI.on v o1) ok
  obtain ⟨h3, e3, o3⟩ := shardWith_on (Z := Z) k.i13 hL (Store.okI.on (Store.okI.on v o1) o2) qi
  have o12 := o1.trans o2
  have o13 := o12.trans o3
  obtain ⟨y, p, rfl, hp, w12⟩ := Store.okI.on v1 o2
  subst hp
  have w := w12.on Shard.okI o3
  rw [call_run F Z (k.i13.lk (g := 387) rfl) _ _ rfl]
  simp only [Request.enc]
  cases hg : s.good with
  | false =>
    rw [hg] at e2
    rw [dost_bad (by simp [hg])]
    simp only [rn, RO.dst, lk, drop, Nat.reduceBEq, Nat.reduceAdd, Nat.reduceLeDiff, ↓reduceIte, reduceCtorEq, Int.reduceLT, Int.reduceLE, Int.reduceGT, Int.reduceGE, Int.reduceBEq, Int.reduceBNe, Int.reduceEq, Int.reduceNe, Int.reduceNeg, l1, l2, l3, e1, e2]
    exact ⟨_, _, _, rfl, o12, ⟨y, _, rfl, rfl, w12⟩, f1⟩
  | true =>
  rw [hg] at e2
  have hin : (s.good && inR (⟨qe, 5, qi, qa, qt⟩ : Request).op 0 8) = true := by rw [hg]; rfl
  have v3 := Store.okI.on v o13
  obtain ⟨x, p, rfl, hp, wx⟩ := v3
  subst hp
  rcases wx.found (fun t => decide (t.lo ≤ qi) && decide (qi ≤ t.hi)) with q | ⟨i, q, hi, hpi, _⟩
  · change findId s.shards qi = -1 at q
    rw [dost_away hin q]
    rw [q] at e3
    simp only [rn, RO.dst, lk, drop, Nat.reduceBEq, Nat.reduceAdd, Nat.reduceLeDiff, ↓reduceIte, reduceCtorEq, Int.reduceLT, Int.reduceLE, Int.reduceGT, Int.reduceGE, Int.reduceBEq, Int.reduceBNe, Int.reduceEq, Int.reduceNe, Int.reduceNeg, l1, l2, l3, e1, e2, e3]
    exact ⟨_, _, _, rfl, o13, ⟨y, _, rfl, rfl, w⟩, f1⟩
  change findId s.shards qi = (i : Int) at q
  rw [q] at e3
  rw [dost_at hin q, Shard.at_get hi]
  have g0 : ¬ (i : Int) < 0 := by omega
  have hyi := w.idx hi
  have okX := ok.shards _ (List.getElem_mem hi)
  have smX := sm.2 _ (List.getElem_mem hi)
  have smf : s.shards[i].finished.length ≤ 1048576 := smX.2
  have smb : s.shards[i].book.list.length ≤ 1048576 := smX.1
  have hbk : bookOk s.shards[i].book.list = true := by
    have := Store.fit_at hg hi
    simp only [Store.fits, Bool.and_eq_true, Shard.at_get hi, Shard.good, Shard.head] at this
    exact this.1.1.2.2.2.1
  obtain ⟨xb, xf, pb, pf, rows, hgr, hrr, wb, wf, fin⟩ := row_book o13 hf w f1 hi
  have hld := fun j n => loadP_row hgr hrr j n
  have eC := containsFin_run (F := F) (Z := Z) k.li k.lc (wf.up (Fl.ok _) h3.next) ⟨qt, qi⟩
  simp only [Fin.enc] at eC
  have hlen := wf.len
  obtain ⟨yb, hq, fb, eB, oB, uB, dB⟩ := doBook_c (Z := Z) (h := ⟨h3.next, h3.next, h3.get⟩) k.i10 k.i13 pri prd (Nat.le_refl _) (wb.up (Fl.ok _) h3.next) ⟨qe, 5, qi, qa, qt⟩ okq okX.book.list smb hbk
  simp only [Request.enc] at eB
  obtain ⟨g1, hg1⟩ : ∃ g1, Heap.mk hq.next h3.floor hq.get = g1 := ⟨_, rfl⟩
  have oB1 : On h3 g1 := by rw [← hg1]; exact ⟨⟨oB.ext.1, oB.ext.2⟩, rfl⟩
  have uB1 : SlR 11 (Fl Account.enc) g1 yb (doBook s.shards[i].book.list ⟨qe, 5, qi, qa, qt⟩).1 fb := by rw [← hg1]; exact uB.up (Fl.ok _) h3.floor
  have ndB : fb.Nodup := by
    rcases dB with d | ⟨_, d⟩
    · exact d.nd
    · rw [d]; exact wb.nodup
  obtain ⟨g2, fqs, rows2, st, og2, fq2, w2, u2, hg2, hr2⟩ := fin g1 yb _ fb oB1 uB1 ndB (by
    rcases dB with d | ⟨_, d⟩
    · exact .inl ⟨d.lo, d.nd⟩
    · exact .inr d)
  cases cA : (s.shards[i].epoch != qe) with
  | true =>
    have cA' : (s.shards[i].epoch == qe) = false := by simpa using cA
    have hR : refuse s.shards[i] ⟨qe, 5, qi, qa, qt⟩ = 9 := by simp [refuse, inR, Request.ends, Request.fin, cA']
    rw [hR]
    simp only [show ((9 : Int) == 0) = false from rfl, cond_false]
    simp only [rn, RO.dst, lk, drop, Nat.reduceBEq, Nat.reduceAdd, Nat.reduceLeDiff, ↓reduceIte, reduceCtorEq, Int.reduceLT, Int.reduceLE, Int.reduceGT, Int.reduceGE, Int.reduceBEq, Int.reduceBNe, Int.reduceEq, Int.reduceNe, Int.reduceNeg, l1, l2, l3, e1, e2, e3, hyi, hld, eC, hlen, g0, cA]
    exact ⟨_, _, _, rfl, o13, ⟨y, _, rfl, rfl, w⟩, f1⟩
  | false =>
  have cA' : (s.shards[i].epoch == qe) = true := by simpa using cA
  cases cB : (s.shards[i].state == 1) with
  | true =>
    have hR : refuse s.shards[i] ⟨qe, 5, qi, qa, qt⟩ = 10 := by simp [refuse, inR, Request.ends, Request.fin, cA', cB]
    rw [hR]
    simp only [show ((10 : Int) == 0) = false from rfl, cond_false]
    simp only [rn, RO.dst, lk, drop, Nat.reduceBEq, Nat.reduceAdd, Nat.reduceLeDiff, ↓reduceIte, reduceCtorEq, Int.reduceLT, Int.reduceLE, Int.reduceGT, Int.reduceGE, Int.reduceBEq, Int.reduceBNe, Int.reduceEq, Int.reduceNe, Int.reduceNeg, l1, l2, l3, e1, e2, e3, hyi, hld, eC, hlen, g0, cA, cB]
    exact ⟨_, _, _, rfl, o13, ⟨y, _, rfl, rfl, w⟩, f1⟩
  | false =>
  by_cases cC : qt < 1
  · have hR : refuse s.shards[i] ⟨qe, 5, qi, qa, qt⟩ = 11 := by simp [refuse, inR, Request.ends, Request.fin, cA', cB, cC]
    rw [hR]
    simp only [show ((11 : Int) == 0) = false from rfl, cond_false]
    simp only [rn, RO.dst, lk, drop, Nat.reduceBEq, Nat.reduceAdd, Nat.reduceLeDiff, ↓reduceIte, reduceCtorEq, Int.reduceLT, Int.reduceLE, Int.reduceGT, Int.reduceGE, Int.reduceBEq, Int.reduceBNe, Int.reduceEq, Int.reduceNe, Int.reduceNeg, l1, l2, l3, e1, e2, e3, hyi, hld, eC, hlen, g0, cA, cB, cC]
    exact ⟨_, _, _, rfl, o13, ⟨y, _, rfl, rfl, w⟩, f1⟩
  cases cD : decide ((⟨qt, qi⟩ : Fin) ∈ s.shards[i].finished) with
  | true =>
    have cD' : (⟨qt, qi⟩ : Fin) ∈ s.shards[i].finished := of_decide_eq_true cD
    have hR : refuse s.shards[i] ⟨qe, 5, qi, qa, qt⟩ = 12 := by simp [refuse, inR, Request.ends, Request.fin, cA', cB, cC, cD']
    rw [hR]
    simp only [show ((12 : Int) == 0) = false from rfl, cond_false]
    simp only [rn, RO.dst, lk, drop, Nat.reduceBEq, Nat.reduceAdd, Nat.reduceLeDiff, ↓reduceIte, reduceCtorEq, Int.reduceLT, Int.reduceLE, Int.reduceGT, Int.reduceGE, Int.reduceBEq, Int.reduceBNe, Int.reduceEq, Int.reduceNe, Int.reduceNeg, l1, l2, l3, e1, e2, e3, hyi, hld, eC, hlen, g0, cA, cB, cC, cD]
    exact ⟨_, _, _, rfl, o13, ⟨y, _, rfl, rfl, w⟩, f1⟩
  | false =>
  have cD' : ¬ (⟨qt, qi⟩ : Fin) ∈ s.shards[i].finished := of_decide_eq_false cD
  have hR : refuse s.shards[i] ⟨qe, 5, qi, qa, qt⟩ = 0 := by simp [refuse, inR, Request.ends, Request.fin, cA', cB, cC, cD']
  rw [hR]
  simp only [beq_self_eq_true, cond_true]
  have hS : doShard s.shards[i] ⟨qe, 5, qi, qa, qt⟩ = { s.shards[i] with book := ⟨(doBook s.shards[i].book.list ⟨qe, 5, qi, qa, qt⟩).1⟩ } := by simp [doShard, Request.ends, Request.fin, cA', cB, cC, cD']
  rw [hS]
  have eA := accountOf_run (Z := Z) k.i10 u2 qi
  rcases val_cases (a := qi) (doBook_srt hbk ⟨qe, 5, qi, qa, qt⟩) with ⟨v1, v2⟩ | ⟨v1, v2, v3, v4⟩ | ⟨v1, j, v2, v3, v4, v5, v6⟩
  · have v1' : ((doBook s.shards[i].book.list ⟨qe, 5, qi, qa, qt⟩).2 == 0) = false := by simpa using v1
    rw [v2]
    simp only [rn, RO.dst, lk, drop, Nat.reduceBEq, Nat.reduceAdd, Nat.reduceLeDiff, ↓reduceIte, reduceCtorEq, Int.reduceLT, Int.reduceLE, Int.reduceGT, Int.reduceGE, Int.reduceBEq, Int.reduceBNe, Int.reduceEq, Int.reduceNe, Int.reduceNeg, l1, l2, l3, e1, e2, e3, hyi, hld, eC, hlen, g0, cA, cB, cC, cD, eB, hg1, st, eA, v1']
    exact ⟨_, _, _, rfl, og2, ⟨y, _, rfl, rfl, w2⟩, fq2⟩
  · have v1' : ((doBook s.shards[i].book.list ⟨qe, 5, qi, qa, qt⟩).2 == 0) = true := by simpa using v1
    rw [v4]
    rw [v2] at eA
    simp only [rn, RO.dst, lk, drop, Nat.reduceBEq, Nat.reduceAdd, Nat.reduceLeDiff, ↓reduceIte, reduceCtorEq, Int.reduceLT, Int.reduceLE, Int.reduceGT, Int.reduceGE, Int.reduceBEq, Int.reduceBNe, Int.reduceEq, Int.reduceNe, Int.reduceNeg, l1, l2, l3, e1, e2, e3, hyi, hld, eC, hlen, g0, cA, cB, cC, cD, eB, hg1, st, eA, v1']
    exact ⟨_, _, _, rfl, og2, ⟨y, _, rfl, rfl, w2⟩, fq2⟩
  · have v1' : ((doBook s.shards[i].book.list ⟨qe, 5, qi, qa, qt⟩).2 == 0) = true := by simpa using v1
    rw [v6, Account.at_get v5]
    rw [v2, v3] at eA
    have hx := u2.idx v5
    have hl := u2.load v5
    simp only [Account.enc] at hl
    simp only [rn, RO.dst, lk, drop, Nat.reduceBEq, Nat.reduceAdd, Nat.reduceLeDiff, ↓reduceIte, reduceCtorEq, Int.reduceLT, Int.reduceLE, Int.reduceGT, Int.reduceGE, Int.reduceBEq, Int.reduceBNe, Int.reduceEq, Int.reduceNe, Int.reduceNeg, l1, l2, l3, e1, e2, e3, hyi, hld, eC, hlen, g0, cA, cB, cC, cD, eB, hg1, st, eA, v1', hx, hl]
    exact ⟨_, _, _, rfl, og2, ⟨y, _, rfl, rfl, w2⟩, fq2⟩
end
end Go.Proofs.YtahkgghifaodoaaGreat.A
namespace Go.Proofs.YtahkgghifaodoaaGreat.A
open Go
set_option linter.unusedSimpArgs false
set_option linter.unusedVariables false
section
variable {F : Nat → Option RF} {Z : CallF} {h : Heap} {cs : List Cell} {fp : List Nat} {s : Store}
set_option maxHeartbeats 4000000 in
set_option maxRecDepth 8000 in
theorem do_op6 (k : KI F) (hL : Has F tLibslicesIndexFuncimplShardimplShard) (pri : PrimAt F Z 343 (insF 11 40)) (prd : PrimAt F Z 348 (delF 11)) (prs : PrimAt F Z 375 (sortF 9 267)) (hf : h.floor ≤ h.next) (v : Store.RI h cs s fp) (qe qi qa qt : Int) (okq : (⟨qe, 6, qi, qa, qt⟩ : Request).Ok) (ok : s.Ok) (sm : s.Small) :
    DoStoreAt F Z h cs s ⟨qe, 6, qi, qa, qt⟩ := by
  unfold DoStoreAt
  obtain ⟨l1, l2, l3⟩ := Store.lenI v
  obtain ⟨cs1, h1, fr, e1, o1, v1, f1⟩ := copyStore_c (Z := Z) k hf v sm
  obtain ⟨h2, e2, o2⟩ := isStore_run (Z := Z) k (Store.okI.on v o1) ok
  obtain ⟨h3, e3, o3⟩ := shardWith_on (Z := Z) k.i13 hL (Store.okI.on (Store.okI.on v o1) o2) qi
  have o12 := o1.trans o2
  have o13 := o12.trans o3
  obtain ⟨y, p, rfl, hp, w12⟩ := Store.okI.on v1 o2
  subst hp
  have w := w12.on Shard.okI o3
  rw [call_run F Z (k.i13.lk (g := 387) rfl) _ _ rfl]
  simp only [Request.enc]
  cases hg : s.good with
  | false =>
    rw [hg] at e2
    rw [dost_bad (by simp [hg])]
    simp only [rn, RO.dst, lk, drop, Nat.reduceBEq, Nat.reduceAdd, Nat.reduceLeDiff, ↓reduceIte, reduceCtorEq, Int.reduceLT, Int.reduceLE, Int.reduceGT, Int.reduceGE, Int.reduceBEq, Int.reduceBNe, Int.reduceEq, Int.reduceNe, Int.reduceNeg, l1, l2, l3, e1, e2]
    exact ⟨_, _, _, rfl, o12, ⟨y, _, rfl, rfl, w12⟩, f1⟩
  | true =>
  rw [hg] at e2
  have hin : (s.good && inR (⟨qe, 6, qi, qa, qt⟩ : Request).op 0 8) = true := by rw [hg]; rfl
  have v3 := Store.okI.on v o13
  obtain ⟨x, p, rfl, hp, wx⟩ := v3
  subst hp
  rcases wx.found (fun t => decide (t.lo ≤ qi) && decide (qi ≤ t.hi)) with q | ⟨i, q, hi, hpi, _⟩
  · change findId s.shards qi = -1 at q
    rw [dost_away hin q]
    rw [q] at e3
    simp only [rn, RO.dst, lk, drop, Nat.reduceBEq, Nat.reduceAdd, Nat.reduceLeDiff, ↓reduceIte, reduceCtorEq, Int.reduceLT, Int.reduceLE, Int.reduceGT, Int.reduceGE, Int.reduceBEq, Int.reduceBNe, Int.reduceEq, Int.reduceNe, Int.reduceNeg, l1, l2, l3, e1, e2, e3]
    exact ⟨_, _, _, rfl, o13, ⟨y, _, rfl, rfl, w⟩, f1⟩
  change findId s.shards qi = (i : Int) at q
  rw [q] at e3
  rw [dost_at hin q, Shard.at_get hi]
  have g0 : ¬ (i : Int) < 0 := by omega
  have hyi := w.idx hi
  have okX := ok.shards _ (List.getElem_mem hi)
  have smX := sm.2 _ (List.getElem_mem hi)
  have smf : s.shards[i].finished.length ≤ 1048576 := smX.2
  have smb : s.shards[i].book.list.length ≤ 1048576 := smX.1
  have hbk : bookOk s.shards[i].book.list = true := by
    have := Store.fit_at hg hi
    simp only [Store.fits, Bool.and_eq_true, Shard.at_get hi, Shard.good, Shard.head] at this
    exact this.1.1.2.2.2.1
  obtain ⟨xb, xf, pb, pf, rows, hgr, hrr, wb, wf, fin⟩ := row_book o13 hf w f1 hi
  have hld := fun j n => loadP_row hgr hrr j n
  have eC := containsFin_run (F := F) (Z := Z) k.li k.lc (wf.up (Fl.ok _) h3.next) ⟨qt, qi⟩
  simp only [Fin.enc] at eC
  have hlen := wf.len
  obtain ⟨yb, hq, fb, eB, oB, uB, dB⟩ := doBook_c (Z := Z) (h := ⟨h3.next, h3.next, h3.get⟩) k.i10 k.i13 pri prd (Nat.le_refl _) (wb.up (Fl.ok _) h3.next) ⟨qe, 6, qi, qa, qt⟩ okq okX.book.list smb hbk
  simp only [Request.enc] at eB
  obtain ⟨g1, hg1⟩ : ∃ g1, Heap.mk hq.next h3.floor hq.get = g1 := ⟨_, rfl⟩
  have oB1 : On h3 g1 := by rw [← hg1]; exact ⟨⟨oB.ext.1, oB.ext.2⟩, rfl⟩
  have uB1 : SlR 11 (Fl Account.enc) g1 yb (doBook s.shards[i].book.list ⟨qe, 6, qi, qa, qt⟩).1 fb := by rw [← hg1]; exact uB.up (Fl.ok _) h3.floor
  have ndB : fb.Nodup := by
    rcases dB with d | ⟨_, d⟩
    · exact d.nd
    · rw [d]; exact wb.nodup
  obtain ⟨g2, fqs, rows2, st, og2, fq2, w2, u2, hg2, hr2⟩ := fin g1 yb _ fb oB1 uB1 ndB (by
    rcases dB with d | ⟨_, d⟩
    · exact .inl ⟨d.lo, d.nd⟩
    · exact .inr d)
  cases cA : (s.shards[i].epoch != qe) with
  | true =>
    have cA' : (s.shards[i].epoch == qe) = false := by simpa using cA
    have hR : refuse s.shards[i] ⟨qe, 6, qi, qa, qt⟩ = 9 := by simp [refuse, inR, Request.ends, Request.fin, cA']
    rw [hR]
    simp only [show ((9 : Int) == 0) = false from rfl, cond_false]
    simp only [rn, RO.dst, lk, drop, Nat.reduceBEq, Nat.reduceAdd, Nat.reduceLeDiff, ↓reduceIte, reduceCtorEq, Int.reduceLT, Int.reduceLE, Int.reduceGT, Int.reduceGE, Int.reduceBEq, Int.reduceBNe, Int.reduceEq, Int.reduceNe, Int.reduceNeg, l1, l2, l3, e1, e2, e3, hyi, hld, eC, hlen, g0, cA]
    exact ⟨_, _, _, rfl, o13, ⟨y, _, rfl, rfl, w⟩, f1⟩
  | false =>
  have cA' : (s.shards[i].epoch == qe) = true := by simpa using cA
  cases cB : (s.shards[i].state == 1) with
  | true =>
    have hR : refuse s.shards[i] ⟨qe, 6, qi, qa, qt⟩ = 10 := by simp [refuse, inR, Request.ends, Request.fin, cA', cB]
    rw [hR]
    simp only [show ((10 : Int) == 0) = false from rfl, cond_false]
    simp only [rn, RO.dst, lk, drop, Nat.reduceBEq, Nat.reduceAdd, Nat.reduceLeDiff, ↓reduceIte, reduceCtorEq, Int.reduceLT, Int.reduceLE, Int.reduceGT, Int.reduceGE, Int.reduceBEq, Int.reduceBNe, Int.reduceEq, Int.reduceNe, Int.reduceNeg, l1, l2, l3, e1, e2, e3, hyi, hld, eC, hlen, g0, cA, cB]
    exact ⟨_, _, _, rfl, o13, ⟨y, _, rfl, rfl, w⟩, f1⟩
  | false =>
  by_cases cC : qt < 1
  · have hR : refuse s.shards[i] ⟨qe, 6, qi, qa, qt⟩ = 11 := by simp [refuse, inR, Request.ends, Request.fin, cA', cB, cC]
    rw [hR]
    simp only [show ((11 : Int) == 0) = false from rfl, cond_false]
    simp only [rn, RO.dst, lk, drop, Nat.reduceBEq, Nat.reduceAdd, Nat.reduceLeDiff, ↓reduceIte, reduceCtorEq, Int.reduceLT, Int.reduceLE, Int.reduceGT, Int.reduceGE, Int.reduceBEq, Int.reduceBNe, Int.reduceEq, Int.reduceNe, Int.reduceNeg, l1, l2, l3, e1, e2, e3, hyi, hld, eC, hlen, g0, cA, cB, cC]
    exact ⟨_, _, _, rfl, o13, ⟨y, _, rfl, rfl, w⟩, f1⟩
  cases cD : decide ((⟨qt, qi⟩ : Fin) ∈ s.shards[i].finished) with
  | true =>
    have cD' : (⟨qt, qi⟩ : Fin) ∈ s.shards[i].finished := of_decide_eq_true cD
    have hR : refuse s.shards[i] ⟨qe, 6, qi, qa, qt⟩ = 0 := by simp [refuse, inR, Request.ends, Request.fin, cA', cB, cC, cD']
    rw [hR]
    simp only [beq_self_eq_true, cond_true]
    have hS : doShard s.shards[i] ⟨qe, 6, qi, qa, qt⟩ = { s.shards[i] with book := ⟨(doBook s.shards[i].book.list ⟨qe, 6, qi, qa, qt⟩).1⟩ } := by simp [doShard, Request.ends, Request.fin, cA', cB, cC, cD']
    rw [hS]
    have eA := accountOf_run (Z := Z) k.i10 u2 qi
    rcases val_cases (a := qi) (doBook_srt hbk ⟨qe, 6, qi, qa, qt⟩) with ⟨v1, v2⟩ | ⟨v1, v2, v3, v4⟩ | ⟨v1, j, v2, v3, v4, v5, v6⟩
    · have v1' : ((doBook s.shards[i].book.list ⟨qe, 6, qi, qa, qt⟩).2 == 0) = false := by simpa using v1
      rw [v2]
      simp only [rn, RO.dst, lk, drop, Nat.reduceBEq, Nat.reduceAdd, Nat.reduceLeDiff, ↓reduceIte, reduceCtorEq, Int.reduceLT, Int.reduceLE, Int.reduceGT, Int.reduceGE, Int.reduceBEq, Int.reduceBNe, Int.reduceEq, Int.reduceNe, Int.reduceNeg, l1, l2, l3, e1, e2, e3, hyi, hld, eC, hlen, g0, cA, cB, cC, cD, eB, hg1, st, eA, v1']
      exact ⟨_, _, _, rfl, og2, ⟨y, _, rfl, rfl, w2⟩, fq2⟩
    · have v1' : ((doBook s.shards[i].book.list ⟨qe, 6, qi, qa, qt⟩).2 == 0) = true := by simpa using v1
      rw [v4]
      rw [v2] at eA
      simp only [rn, RO.dst, lk, drop, Nat.reduceBEq, Nat.reduceAdd, Nat.reduceLeDiff, ↓reduceIte, reduceCtorEq, Int.reduceLT, Int.reduceLE, Int.reduceGT, Int.reduceGE, Int.reduceBEq, Int.reduceBNe, Int.reduceEq, Int.reduceNe, Int.reduceNeg, l1, l2, l3, e1, e2, e3, hyi, hld, eC, hlen, g0, cA, cB, cC, cD, eB, hg1, st, eA, v1']
      exact ⟨_, _, _, rfl, og2, ⟨y, _, rfl, rfl, w2⟩, fq2⟩
    · have v1' : ((doBook s.shards[i].book.list ⟨qe, 6, qi, qa, qt⟩).2 == 0) = true := by simpa using v1
      rw [v6, Account.at_get v5]
      rw [v2, v3] at eA
      have hx := u2.idx v5
      have hl := u2.load v5
      simp only [Account.enc] at hl
      simp only [rn, RO.dst, lk, drop, Nat.reduceBEq, Nat.reduceAdd, Nat.reduceLeDiff, ↓reduceIte, reduceCtorEq, Int.reduceLT, Int.reduceLE, Int.reduceGT, Int.reduceGE, Int.reduceBEq, Int.reduceBNe, Int.reduceEq, Int.reduceNe, Int.reduceNeg, l1, l2, l3, e1, e2, e3, hyi, hld, eC, hlen, g0, cA, cB, cC, cD, eB, hg1, st, eA, v1', hx, hl]
      exact ⟨_, _, _, rfl, og2, ⟨y, _, rfl, rfl, w2⟩, fq2⟩
  | false =>
  have cD' : ¬ (⟨qt, qi⟩ : Fin) ∈ s.shards[i].finished := of_decide_eq_false cD
  cases cE : ((s.shards[i].finished.length : Int) == 60) with
  | true =>
    have cE' : (s.shards[i].finished.length : Int) = 60 := by simpa using cE
    have hR : refuse s.shards[i] ⟨qe, 6, qi, qa, qt⟩ = 13 := by simp [refuse, inR, Request.ends, Request.fin, cA', cB, cC, cD', cE]
    rw [hR]
    simp only [show ((13 : Int) == 0) = false from rfl, cond_false]
    simp only [rn, RO.dst, lk, drop, Nat.reduceBEq, Nat.reduceAdd, Nat.reduceLeDiff, ↓reduceIte, reduceCtorEq, Int.reduceLT, Int.reduceLE, Int.reduceGT, Int.reduceGE, Int.reduceBEq, Int.reduceBNe, Int.reduceEq, Int.reduceNe, Int.reduceNeg, l1, l2, l3, e1, e2, e3, hyi, hld, eC, hlen, g0, cA, cB, cC, cD, cE]
    exact ⟨_, _, _, rfl, o13, ⟨y, _, rfl, rfl, w⟩, f1⟩
  | false =>
  have cE' : ¬ (s.shards[i].finished.length : Int) = 60 := by simpa using cE
  have hR : refuse s.shards[i] ⟨qe, 6, qi, qa, qt⟩ = 0 := by simp [refuse, inR, Request.ends, Request.fin, cA', cB, cC, cD', cE]
  rw [hR]
  simp only [beq_self_eq_true, cond_true]
  have hS : doShard s.shards[i] ⟨qe, 6, qi, qa, qt⟩ = { s.shards[i] with book := ⟨(doBook s.shards[i].book.list ⟨qe, 6, qi, qa, qt⟩).1⟩, finished := sortFins (s.shards[i].finished ++ [⟨qt, qi⟩]) } := by simp [doShard, Request.ends, Request.fin, cA', cB, cC, cD', cE]
  rw [hS]
  have hi2 : i < (s.shards.set i { s.shards[i] with book := ⟨(doBook s.shards[i].book.list ⟨qe, 6, qi, qa, qt⟩).1⟩ }).length := by rw [List.length_set]; exact hi
  obtain ⟨xf', g3, g4, g5, fq3, fb3, a1, a2, a3, a4, og5, ff5, w5, u5⟩ := row_fin og2 hf w2 fq2 hi2 (by rw [List.getElem_set_self]; exact smf) hg2 (by rw [List.getElem_set_self]; exact hr2) ⟨qt, qi⟩
  simp only [List.getElem_set_self, List.set_set, Fin.enc] at a1 a3 w5 u5
  have hl2 := fun j n => loadP_row hg2 hr2 j n
  have eA := accountOf_run (Z := Z) k.i10 u5 qi
  rcases val_cases (a := qi) (doBook_srt hbk ⟨qe, 6, qi, qa, qt⟩) with ⟨v1, v2⟩ | ⟨v1, v2, v3, v4⟩ | ⟨v1, j, v2, v3, v4, v5, v6⟩
  · have v1' : ((doBook s.shards[i].book.list ⟨qe, 6, qi, qa, qt⟩).2 == 0) = false := by simpa using v1
    rw [v2]
    simp only [rn, RO.dst, lk, drop, Nat.reduceBEq, Nat.reduceAdd, Nat.reduceLeDiff, ↓reduceIte, reduceCtorEq, Int.reduceLT, Int.reduceLE, Int.reduceGT, Int.reduceGE, Int.reduceBEq, Int.reduceBNe, Int.reduceEq, Int.reduceNe, Int.reduceNeg, l1, l2, l3, e1, e2, e3, hyi, hld, eC, hlen, g0, cA, cB, cC, cD, cE, eB, hg1, st, hl2, List.replicate_succ, List.replicate_zero, fills, and_self, Nat.zero_lt_one, List.set_cons_zero, a1, a2, a3, prs _ _, a4, eA, v1']
    exact ⟨_, _, _, rfl, og5, ⟨y, _, rfl, rfl, w5⟩, ff5⟩
  · have v1' : ((doBook s.shards[i].book.list ⟨qe, 6, qi, qa, qt⟩).2 == 0) = true := by simpa using v1
    rw [v4]
    rw [v2] at eA
    simp only [rn, RO.dst, lk, drop, Nat.reduceBEq, Nat.reduceAdd, Nat.reduceLeDiff, ↓reduceIte, reduceCtorEq, Int.reduceLT, Int.reduceLE, Int.reduceGT, Int.reduceGE, Int.reduceBEq, Int.reduceBNe, Int.reduceEq, Int.reduceNe, Int.reduceNeg, l1, l2, l3, e1, e2, e3, hyi, hld, eC, hlen, g0, cA, cB, cC, cD, cE, eB, hg1, st, hl2, List.replicate_succ, List.replicate_zero, fills, and_self, Nat.zero_lt_one, List.set_cons_zero, a1, a2, a3, prs _ _, a4, eA, v1']
    exact ⟨_, _, _, rfl, og5, ⟨y, _, rfl, rfl, w5⟩, ff5⟩
  · have v1' : ((doBook s.shards[i].book.list ⟨qe, 6, qi, qa, qt⟩).2 == 0) = true := by simpa using v1
    rw [v6, Account.at_get v5]
    rw [v2, v3] at eA
    have hx := u5.idx v5
    have hl := u5.load v5
    simp only [Account.enc] at hl
    simp only [rn, RO.dst, lk, drop, Nat.reduceBEq, Nat.reduceAdd, Nat.reduceLeDiff, ↓reduceIte, reduceCtorEq, Int.reduceLT, Int.reduceLE, Int.reduceGT, Int.reduceGE, Int.reduceBEq, Int.reduceBNe, Int.reduceEq, Int.reduceNe, Int.reduceNeg, l1, l2, l3, e1, e2, e3, hyi, hld, eC, hlen, g0, cA, cB, cC, cD, cE, eB, hg1, st, hl2, List.replicate_succ, List.replicate_zero, fills, and_self, Nat.zero_lt_one, List.set_cons_zero, a1, a2, a3, prs _ _, a4, eA, v1', hx, hl]
    exact ⟨_, _, _, rfl, og5, ⟨y, _, rfl, rfl, w5⟩, ff5⟩
end
end Go.Proofs.YtahkgghifaodoaaGreat.A
namespace Go.Proofs.YtahkgghifaodoaaGreat.A
open Go
set_option linter.unusedSimpArgs false
set_option linter.unusedVariables false
section
variable {F : Nat → Option RF} {Z : CallF} {h : Heap} {cs : List Cell} {fp : List Nat} {s : Store}
set_option maxHeartbeats 4000000 in
set_option maxRecDepth 8000 in
theorem do_op7 (k : KI F) (hL : Has F tLibslicesIndexFuncimplShardimplShard) (pri : PrimAt F Z 343 (insF 11 40)) (prd : PrimAt F Z 348 (delF 11)) (prs : PrimAt F Z 375 (sortF 9 267)) (hf : h.floor ≤ h.next) (v : Store.RI h cs s fp) (qe qi qa qt : Int) (okq : (⟨qe, 7, qi, qa, qt⟩ : Request).Ok) (ok : s.Ok) (sm : s.Small) :
    DoStoreAt F Z h cs s ⟨qe, 7, qi, qa, qt⟩ := by
  unfold DoStoreAt
  obtain ⟨l1, l2, l3⟩ := Store.lenI v
  obtain ⟨cs1, h1, fr, e1, o1, v1, f1⟩ := copyStore_c (Z := Z) k hf v sm
  obtain ⟨h2, e2, o2⟩ := isStore_run (Z := Z) k (Store.okI.on v o1) ok
  obtain ⟨h3, e3, o3⟩ := shardWith_on (Z := Z) k.i13 hL (Store.okI.on (Store.okI.on v o1) o2) qi
  have o12 := o1.trans o2
  have o13 := o12.trans o3
  obtain ⟨y, p, rfl, hp, w12⟩ := Store.okI.on v1 o2
  subst hp
  have w := w12.on Shard.okI o3
  rw [call_run F Z (k.i13.lk (g := 387) rfl) _ _ rfl]
  simp only [Request.enc]
  cases hg : s.good with
  | false =>
    rw [hg] at e2
    rw [dost_bad (by simp [hg])]
    simp only [rn, RO.dst, lk, drop, Nat.reduceBEq, Nat.reduceAdd, Nat.reduceLeDiff, ↓reduceIte, reduceCtorEq, Int.reduceLT, Int.reduceLE, Int.reduceGT, Int.reduceGE, Int.reduceBEq, Int.reduceBNe, Int.reduceEq, Int.reduceNe, Int.reduceNeg, l1, l2, l3, e1, e2]
    exact ⟨_, _, _, rfl, o12, ⟨y, _, rfl, rfl, w12⟩, f1⟩
  | true =>
  rw [hg] at e2
  have hin : (s.good && inR (⟨qe, 7, qi, qa, qt⟩ : Request).op 0 8) = true := by rw [hg]; rfl
  have v3 := Store.okI.on v o13
  obtain ⟨x, p, rfl, hp, wx⟩ := v3
  subst hp
  rcases wx.found (fun t => decide (t.lo ≤ qi) && decide (qi ≤ t.hi)) with q | ⟨i, q, hi, hpi, _⟩
  · change findId s.shards qi = -1 at q
    rw [dost_away hin q]
    rw [q] at e3
    simp only [rn, RO.dst, lk, drop, Nat.reduceBEq, Nat.reduceAdd, Nat.reduceLeDiff, ↓reduceIte, reduceCtorEq, Int.reduceLT, Int.reduceLE, Int.reduceGT, Int.reduceGE, Int.reduceBEq, Int.reduceBNe, Int.reduceEq, Int.reduceNe, Int.reduceNeg, l1, l2, l3, e1, e2, e3]
    exact ⟨_, _, _, rfl, o13, ⟨y, _, rfl, rfl, w⟩, f1⟩
  change findId s.shards qi = (i : Int) at q
  rw [q] at e3
  rw [dost_at hin q, Shard.at_get hi]
  have g0 : ¬ (i : Int) < 0 := by omega
  have hyi := w.idx hi
  have okX := ok.shards _ (List.getElem_mem hi)
  have smX := sm.2 _ (List.getElem_mem hi)
  have smf : s.shards[i].finished.length ≤ 1048576 := smX.2
  have smb : s.shards[i].book.list.length ≤ 1048576 := smX.1
  have hbk : bookOk s.shards[i].book.list = true := by
    have := Store.fit_at hg hi
    simp only [Store.fits, Bool.and_eq_true, Shard.at_get hi, Shard.good, Shard.head] at this
    exact this.1.1.2.2.2.1
  obtain ⟨xb, xf, pb, pf, rows, hgr, hrr, wb, wf, fin⟩ := row_book o13 hf w f1 hi
  have hld := fun j n => loadP_row hgr hrr j n
  have eC := containsFin_run (F := F) (Z := Z) k.li k.lc (wf.up (Fl.ok _) h3.next) ⟨qt, qi⟩
  simp only [Fin.enc] at eC
  have hlen := wf.len
  obtain ⟨yb, hq, fb, eB, oB, uB, dB⟩ := doBook_c (Z := Z) (h := ⟨h3.next, h3.next, h3.get⟩) k.i10 k.i13 pri prd (Nat.le_refl _) (wb.up (Fl.ok _) h3.next) ⟨qe, 7, qi, qa, qt⟩ okq okX.book.list smb hbk
  simp only [Request.enc] at eB
  obtain ⟨g1, hg1⟩ : ∃ g1, Heap.mk hq.next h3.floor hq.get = g1 := ⟨_, rfl⟩
  have oB1 : On h3 g1 := by rw [← hg1]; exact ⟨⟨oB.ext.1, oB.ext.2⟩, rfl⟩
  have uB1 : SlR 11 (Fl Account.enc) g1 yb (doBook s.shards[i].book.list ⟨qe, 7, qi, qa, qt⟩).1 fb := by rw [← hg1]; exact uB.up (Fl.ok _) h3.floor
  have ndB : fb.Nodup := by
    rcases dB with d | ⟨_, d⟩
    · exact d.nd
    · rw [d]; exact wb.nodup
  obtain ⟨g2, fqs, rows2, st, og2, fq2, w2, u2, hg2, hr2⟩ := fin g1 yb _ fb oB1 uB1 ndB (by
    rcases dB with d | ⟨_, d⟩
    · exact .inl ⟨d.lo, d.nd⟩
    · exact .inr d)
  cases cA : (s.shards[i].epoch != qe) with
  | true =>
    have cA' : (s.shards[i].epoch == qe) = false := by simpa using cA
    have hR : refuse s.shards[i] ⟨qe, 7, qi, qa, qt⟩ = 9 := by simp [refuse, inR, Request.ends, Request.fin, cA']
    rw [hR]
    simp only [show ((9 : Int) == 0) = false from rfl, cond_false]
    simp only [rn, RO.dst, lk, drop, Nat.reduceBEq, Nat.reduceAdd, Nat.reduceLeDiff, ↓reduceIte, reduceCtorEq, Int.reduceLT, Int.reduceLE, Int.reduceGT, Int.reduceGE, Int.reduceBEq, Int.reduceBNe, Int.reduceEq, Int.reduceNe, Int.reduceNeg, l1, l2, l3, e1, e2, e3, hyi, hld, eC, hlen, g0, cA]
    exact ⟨_, _, _, rfl, o13, ⟨y, _, rfl, rfl, w⟩, f1⟩
  | false =>
  have cA' : (s.shards[i].epoch == qe) = true := by simpa using cA
  cases cB : (s.shards[i].state == 1) with
  | true =>
    have hR : refuse s.shards[i] ⟨qe, 7, qi, qa, qt⟩ = 10 := by simp [refuse, inR, Request.ends, Request.fin, cA', cB]
    rw [hR]
    simp only [show ((10 : Int) == 0) = false from rfl, cond_false]
    simp only [rn, RO.dst, lk, drop, Nat.reduceBEq, Nat.reduceAdd, Nat.reduceLeDiff, ↓reduceIte, reduceCtorEq, Int.reduceLT, Int.reduceLE, Int.reduceGT, Int.reduceGE, Int.reduceBEq, Int.reduceBNe, Int.reduceEq, Int.reduceNe, Int.reduceNeg, l1, l2, l3, e1, e2, e3, hyi, hld, eC, hlen, g0, cA, cB]
    exact ⟨_, _, _, rfl, o13, ⟨y, _, rfl, rfl, w⟩, f1⟩
  | false =>
  by_cases cC : qt < 1
  · have hR : refuse s.shards[i] ⟨qe, 7, qi, qa, qt⟩ = 11 := by simp [refuse, inR, Request.ends, Request.fin, cA', cB, cC]
    rw [hR]
    simp only [show ((11 : Int) == 0) = false from rfl, cond_false]
    simp only [rn, RO.dst, lk, drop, Nat.reduceBEq, Nat.reduceAdd, Nat.reduceLeDiff, ↓reduceIte, reduceCtorEq, Int.reduceLT, Int.reduceLE, Int.reduceGT, Int.reduceGE, Int.reduceBEq, Int.reduceBNe, Int.reduceEq, Int.reduceNe, Int.reduceNeg, l1, l2, l3, e1, e2, e3, hyi, hld, eC, hlen, g0, cA, cB, cC]
    exact ⟨_, _, _, rfl, o13, ⟨y, _, rfl, rfl, w⟩, f1⟩
  cases cD : decide ((⟨qt, qi⟩ : Fin) ∈ s.shards[i].finished) with
  | true =>
    have cD' : (⟨qt, qi⟩ : Fin) ∈ s.shards[i].finished := of_decide_eq_true cD
    have hR : refuse s.shards[i] ⟨qe, 7, qi, qa, qt⟩ = 0 := by simp [refuse, inR, Request.ends, Request.fin, cA', cB, cC, cD']
    rw [hR]
    simp only [beq_self_eq_true, cond_true]
    have hS : doShard s.shards[i] ⟨qe, 7, qi, qa, qt⟩ = { s.shards[i] with book := ⟨(doBook s.shards[i].book.list ⟨qe, 7, qi, qa, qt⟩).1⟩ } := by simp [doShard, Request.ends, Request.fin, cA', cB, cC, cD']
    rw [hS]
    have eA := accountOf_run (Z := Z) k.i10 u2 qi
    rcases val_cases (a := qi) (doBook_srt hbk ⟨qe, 7, qi, qa, qt⟩) with ⟨v1, v2⟩ | ⟨v1, v2, v3, v4⟩ | ⟨v1, j, v2, v3, v4, v5, v6⟩
    · have v1' : ((doBook s.shards[i].book.list ⟨qe, 7, qi, qa, qt⟩).2 == 0) = false := by simpa using v1
      rw [v2]
      simp only [rn, RO.dst, lk, drop, Nat.reduceBEq, Nat.reduceAdd, Nat.reduceLeDiff, ↓reduceIte, reduceCtorEq, Int.reduceLT, Int.reduceLE, Int.reduceGT, Int.reduceGE, Int.reduceBEq, Int.reduceBNe, Int.reduceEq, Int.reduceNe, Int.reduceNeg, l1, l2, l3, e1, e2, e3, hyi, hld, eC, hlen, g0, cA, cB, cC, cD, eB, hg1, st, eA, v1']
      exact ⟨_, _, _, rfl, og2, ⟨y, _, rfl, rfl, w2⟩, fq2⟩
    · have v1' : ((doBook s.shards[i].book.list ⟨qe, 7, qi, qa, qt⟩).2 == 0) = true := by simpa using v1
      rw [v4]
      rw [v2] at eA
      simp only [rn, RO.dst, lk, drop, Nat.reduceBEq, Nat.reduceAdd, Nat.reduceLeDiff, ↓reduceIte, reduceCtorEq, Int.reduceLT, Int.reduceLE, Int.reduceGT, Int.reduceGE, Int.reduceBEq, Int.reduceBNe, Int.reduceEq, Int.reduceNe, Int.reduceNeg, l1, l2, l3, e1, e2, e3, hyi, hld, eC, hlen, g0, cA, cB, cC, cD, eB, hg1, st, eA, v1']
      exact ⟨_, _, _, rfl, og2, ⟨y, _, rfl, rfl, w2⟩, fq2⟩
    · have v1' : ((doBook s.shards[i].book.list ⟨qe, 7, qi, qa, qt⟩).2 == 0) = true := by simpa using v1
      rw [v6, Account.at_get v5]
      rw [v2, v3] at eA
      have hx := u2.idx v5
      have hl := u2.load v5
      simp only [Account.enc] at hl
      simp only [rn, RO.dst, lk, drop, Nat.reduceBEq, Nat.reduceAdd, Nat.reduceLeDiff, ↓reduceIte, reduceCtorEq, Int.reduceLT, Int.reduceLE, Int.reduceGT, Int.reduceGE, Int.reduceBEq, Int.reduceBNe, Int.reduceEq, Int.reduceNe, Int.reduceNeg, l1, l2, l3, e1, e2, e3, hyi, hld, eC, hlen, g0, cA, cB, cC, cD, eB, hg1, st, eA, v1', hx, hl]
      exact ⟨_, _, _, rfl, og2, ⟨y, _, rfl, rfl, w2⟩, fq2⟩
  | false =>
  have cD' : ¬ (⟨qt, qi⟩ : Fin) ∈ s.shards[i].finished := of_decide_eq_false cD
  cases cE : ((s.shards[i].finished.length : Int) == 60) with
  | true =>
    have cE' : (s.shards[i].finished.length : Int) = 60 := by simpa using cE
    have hR : refuse s.shards[i] ⟨qe, 7, qi, qa, qt⟩ = 13 := by simp [refuse, inR, Request.ends, Request.fin, cA', cB, cC, cD', cE]
    rw [hR]
    simp only [show ((13 : Int) == 0) = false from rfl, cond_false]
    simp only [rn, RO.dst, lk, drop, Nat.reduceBEq, Nat.reduceAdd, Nat.reduceLeDiff, ↓reduceIte, reduceCtorEq, Int.reduceLT, Int.reduceLE, Int.reduceGT, Int.reduceGE, Int.reduceBEq, Int.reduceBNe, Int.reduceEq, Int.reduceNe, Int.reduceNeg, l1, l2, l3, e1, e2, e3, hyi, hld, eC, hlen, g0, cA, cB, cC, cD, cE]
    exact ⟨_, _, _, rfl, o13, ⟨y, _, rfl, rfl, w⟩, f1⟩
  | false =>
  have cE' : ¬ (s.shards[i].finished.length : Int) = 60 := by simpa using cE
  have hR : refuse s.shards[i] ⟨qe, 7, qi, qa, qt⟩ = 0 := by simp [refuse, inR, Request.ends, Request.fin, cA', cB, cC, cD', cE]
  rw [hR]
  simp only [beq_self_eq_true, cond_true]
  have hS : doShard s.shards[i] ⟨qe, 7, qi, qa, qt⟩ = { s.shards[i] with book := ⟨(doBook s.shards[i].book.list ⟨qe, 7, qi, qa, qt⟩).1⟩, finished := sortFins (s.shards[i].finished ++ [⟨qt, qi⟩]) } := by simp [doShard, Request.ends, Request.fin, cA', cB, cC, cD', cE]
  rw [hS]
  have hi2 : i < (s.shards.set i { s.shards[i] with book := ⟨(doBook s.shards[i].book.list ⟨qe, 7, qi, qa, qt⟩).1⟩ }).length := by rw [List.length_set]; exact hi
  obtain ⟨xf', g3, g4, g5, fq3, fb3, a1, a2, a3, a4, og5, ff5, w5, u5⟩ := row_fin og2 hf w2 fq2 hi2 (by rw [List.getElem_set_self]; exact smf) hg2 (by rw [List.getElem_set_self]; exact hr2) ⟨qt, qi⟩
  simp only [List.getElem_set_self, List.set_set, Fin.enc] at a1 a3 w5 u5
  have hl2 := fun j n => loadP_row hg2 hr2 j n
  have eA := accountOf_run (Z := Z) k.i10 u5 qi
  rcases val_cases (a := qi) (doBook_srt hbk ⟨qe, 7, qi, qa, qt⟩) with ⟨v1, v2⟩ | ⟨v1, v2, v3, v4⟩ | ⟨v1, j, v2, v3, v4, v5, v6⟩
  · have v1' : ((doBook s.shards[i].book.list ⟨qe, 7, qi, qa, qt⟩).2 == 0) = false := by simpa using v1
    rw [v2]
    simp only [rn, RO.dst, lk, drop, Nat.reduceBEq, Nat.reduceAdd, Nat.reduceLeDiff, ↓reduceIte, reduceCtorEq, Int.reduceLT, Int.reduceLE, Int.reduceGT, Int.reduceGE, Int.reduceBEq, Int.reduceBNe, Int.reduceEq, Int.reduceNe, Int.reduceNeg, l1, l2, l3, e1, e2, e3, hyi, hld, eC, hlen, g0, cA, cB, cC, cD, cE, eB, hg1, st, hl2, List.replicate_succ, List.replicate_zero, fills, and_self, Nat.zero_lt_one, List.set_cons_zero, a1, a2, a3, prs _ _, a4, eA, v1']
    exact ⟨_, _, _, rfl, og5, ⟨y, _, rfl, rfl, w5⟩, ff5⟩
  · have v1' : ((doBook s.shards[i].book.list ⟨qe, 7, qi, qa, qt⟩).2 == 0) = true := by simpa using v1
    rw [v4]
    rw [v2] at eA
    simp only [rn, RO.dst, lk, drop, Nat.reduceBEq, Nat.reduceAdd, Nat.reduceLeDiff, ↓reduceIte, reduceCtorEq, Int.reduceLT, Int.reduceLE, Int.reduceGT, Int.reduceGE, Int.reduceBEq, Int.reduceBNe, Int.reduceEq, Int.reduceNe, Int.reduceNeg, l1, l2, l3, e1, e2, e3, hyi, hld, eC, hlen, g0, cA, cB, cC, cD, cE, eB, hg1, st, hl2, List.replicate_succ, List.replicate_zero, fills, and_self, Nat.zero_lt_one, List.set_cons_zero, a1, a2, a3, prs _ _, a4, eA, v1']
    exact ⟨_, _, _, rfl, og5, ⟨y, _, rfl, rfl, w5⟩, ff5⟩
  · have v1' : ((doBook s.shards[i].book.list ⟨qe, 7, qi, qa, qt⟩).2 == 0) = true := by simpa using v1
    rw [v6, Account.at_get v5]
    rw [v2, v3] at eA
    have hx := u5.idx v5
    have hl := u5.load v5
    simp only [Account.enc] at hl
    simp only [rn, RO.dst, lk, drop, Nat.reduceBEq, Nat.reduceAdd, Nat.reduceLeDiff, ↓reduceIte, reduceCtorEq, Int.reduceLT, Int.reduceLE, Int.reduceGT, Int.reduceGE, Int.reduceBEq, Int.reduceBNe, Int.reduceEq, Int.reduceNe, Int.reduceNeg, l1, l2, l3, e1, e2, e3, hyi, hld, eC, hlen, g0, cA, cB, cC, cD, cE, eB, hg1, st, hl2, List.replicate_succ, List.replicate_zero, fills, and_self, Nat.zero_lt_one, List.set_cons_zero, a1, a2, a3, prs _ _, a4, eA, v1', hx, hl]
    exact ⟨_, _, _, rfl, og5, ⟨y, _, rfl, rfl, w5⟩, ff5⟩
set_option maxHeartbeats 4000000 in
set_option maxRecDepth 8000 in
theorem do_op8 (k : KI F) (hL : Has F tLibslicesIndexFuncimplShardimplShard) (pri : PrimAt F Z 343 (insF 11 40)) (prd : PrimAt F Z 348 (delF 11)) (prs : PrimAt F Z 375 (sortF 9 267)) (hf : h.floor ≤ h.next) (v : Store.RI h cs s fp) (qe qi qa qt : Int) (okq : (⟨qe, 8, qi, qa, qt⟩ : Request).Ok) (ok : s.Ok) (sm : s.Small) :
    DoStoreAt F Z h cs s ⟨qe, 8, qi, qa, qt⟩ := by
  unfold DoStoreAt
  obtain ⟨l1, l2, l3⟩ := Store.lenI v
  obtain ⟨cs1, h1, fr, e1, o1, v1, f1⟩ := copyStore_c (Z := Z) k hf v sm
  obtain ⟨h2, e2, o2⟩ := isStore_run (Z := Z) k (Store.okI.on v o1) ok
  obtain ⟨h3, e3, o3⟩ := shardWith_on (Z := Z) k.i13 hL (Store.okI.on (Store.okI.on v o1) o2) qi
  have o12 := o1.trans o2
  have o13 := o12.trans o3
  obtain ⟨y, p, rfl, hp, w12⟩ := Store.okI.on v1 o2
  subst hp
  have w := w12.on Shard.okI o3
  rw [call_run F Z (k.i13.lk (g := 387) rfl) _ _ rfl]
  simp only [Request.enc]
  cases hg : s.good with
  | false =>
    rw [hg] at e2
    rw [dost_bad (by simp [hg])]
    simp only [rn, RO.dst, lk, drop, Nat.reduceBEq, Nat.reduceAdd, Nat.reduceLeDiff, ↓reduceIte, reduceCtorEq, Int.reduceLT, Int.reduceLE, Int.reduceGT, Int.reduceGE, Int.reduceBEq, Int.reduceBNe, Int.reduceEq, Int.reduceNe, Int.reduceNeg, l1, l2, l3, e1, e2]
    exact ⟨_, _, _, rfl, o12, ⟨y, _, rfl, rfl, w12⟩, f1⟩
  | true =>
  rw [hg] at e2
  have hin : (s.good && inR (⟨qe, 8, qi, qa, qt⟩ : Request).op 0 8) = true := by rw [hg]; rfl
  have v3 := Store.okI.on v o13
  obtain ⟨x, p, rfl, hp, wx⟩ := v3
  subst hp
  rcases wx.found (fun t => decide (t.lo ≤ qi) && decide (qi ≤ t.hi)) with q | ⟨i, q, hi, hpi, _⟩
  · change findId s.shards qi = -1 at q
    rw [dost_away hin q]
    rw [q] at e3
    simp only [rn, RO.dst, lk, drop, Nat.reduceBEq, Nat.reduceAdd, Nat.reduceLeDiff, ↓reduceIte, reduceCtorEq, Int.reduceLT, Int.reduceLE, Int.reduceGT, Int.reduceGE, Int.reduceBEq, Int.reduceBNe, Int.reduceEq, Int.reduceNe, Int.reduceNeg, l1, l2, l3, e1, e2, e3]
    exact ⟨_, _, _, rfl, o13, ⟨y, _, rfl, rfl, w⟩, f1⟩
  change findId s.shards qi = (i : Int) at q
  rw [q] at e3
  rw [dost_at hin q, Shard.at_get hi]
  have g0 : ¬ (i : Int) < 0 := by omega
  have hyi := w.idx hi
  have okX := ok.shards _ (List.getElem_mem hi)
  have smX := sm.2 _ (List.getElem_mem hi)
  have smf : s.shards[i].finished.length ≤ 1048576 := smX.2
  have smb : s.shards[i].book.list.length ≤ 1048576 := smX.1
  have hbk : bookOk s.shards[i].book.list = true := by
    have := Store.fit_at hg hi
    simp only [Store.fits, Bool.and_eq_true, Shard.at_get hi, Shard.good, Shard.head] at this
    exact this.1.1.2.2.2.1
  obtain ⟨xb, xf, pb, pf, rows, hgr, hrr, wb, wf, fin⟩ := row_book o13 hf w f1 hi
  have hld := fun j n => loadP_row hgr hrr j n
  have eC := containsFin_run (F := F) (Z := Z) k.li k.lc (wf.up (Fl.ok _) h3.next) ⟨qt, qi⟩
  simp only [Fin.enc] at eC
  have hlen := wf.len
  obtain ⟨yb, hq, fb, eB, oB, uB, dB⟩ := doBook_c (Z := Z) (h := ⟨h3.next, h3.next, h3.get⟩) k.i10 k.i13 pri prd (Nat.le_refl _) (wb.up (Fl.ok _) h3.next) ⟨qe, 8, qi, qa, qt⟩ okq okX.book.list smb hbk
  simp only [Request.enc] at eB
  obtain ⟨g1, hg1⟩ : ∃ g1, Heap.mk hq.next h3.floor hq.get = g1 := ⟨_, rfl⟩
  have oB1 : On h3 g1 := by rw [← hg1]; exact ⟨⟨oB.ext.1, oB.ext.2⟩, rfl⟩
  have uB1 : SlR 11 (Fl Account.enc) g1 yb (doBook s.shards[i].book.list ⟨qe, 8, qi, qa, qt⟩).1 fb := by rw [← hg1]; exact uB.up (Fl.ok _) h3.floor
  have ndB : fb.Nodup := by
    rcases dB with d | ⟨_, d⟩
    · exact d.nd
    · rw [d]; exact wb.nodup
  obtain ⟨g2, fqs, rows2, st, og2, fq2, w2, u2, hg2, hr2⟩ := fin g1 yb _ fb oB1 uB1 ndB (by
    rcases dB with d | ⟨_, d⟩
    · exact .inl ⟨d.lo, d.nd⟩
    · exact .inr d)
  cases cA : (s.shards[i].epoch != qe) with
  | true =>
    have cA' : (s.shards[i].epoch == qe) = false := by simpa using cA
    have hR : refuse s.shards[i] ⟨qe, 8, qi, qa, qt⟩ = 9 := by simp [refuse, inR, Request.ends, Request.fin, cA']
    rw [hR]
    simp only [show ((9 : Int) == 0) = false from rfl, cond_false]
    simp only [rn, RO.dst, lk, drop, Nat.reduceBEq, Nat.reduceAdd, Nat.reduceLeDiff, ↓reduceIte, reduceCtorEq, Int.reduceLT, Int.reduceLE, Int.reduceGT, Int.reduceGE, Int.reduceBEq, Int.reduceBNe, Int.reduceEq, Int.reduceNe, Int.reduceNeg, l1, l2, l3, e1, e2, e3, hyi, hld, eC, hlen, g0, cA]
    exact ⟨_, _, _, rfl, o13, ⟨y, _, rfl, rfl, w⟩, f1⟩
  | false =>
  have cA' : (s.shards[i].epoch == qe) = true := by simpa using cA
  cases cB : (s.shards[i].state == 1) with
  | true =>
    have hR : refuse s.shards[i] ⟨qe, 8, qi, qa, qt⟩ = 0 := by simp [refuse, inR, Request.ends, Request.fin, cA', cB]
    rw [hR]
    simp only [beq_self_eq_true, cond_true]
    have hS : doShard s.shards[i] ⟨qe, 8, qi, qa, qt⟩ = { s.shards[i] with book := ⟨(doBook s.shards[i].book.list ⟨qe, 8, qi, qa, qt⟩).1⟩ } := by simp [doShard, Request.ends, Request.fin, cA', cB]
    rw [hS]
    have eA := accountOf_run (Z := Z) k.i10 u2 qi
    rcases val_cases (a := qi) (doBook_srt hbk ⟨qe, 8, qi, qa, qt⟩) with ⟨v1, v2⟩ | ⟨v1, v2, v3, v4⟩ | ⟨v1, j, v2, v3, v4, v5, v6⟩
    · have v1' : ((doBook s.shards[i].book.list ⟨qe, 8, qi, qa, qt⟩).2 == 0) = false := by simpa using v1
      rw [v2]
      simp only [rn, RO.dst, lk, drop, Nat.reduceBEq, Nat.reduceAdd, Nat.reduceLeDiff, ↓reduceIte, reduceCtorEq, Int.reduceLT, Int.reduceLE, Int.reduceGT, Int.reduceGE, Int.reduceBEq, Int.reduceBNe, Int.reduceEq, Int.reduceNe, Int.reduceNeg, l1, l2, l3, e1, e2, e3, hyi, hld, eC, hlen, g0, cA, cB, eB, hg1, st, eA, v1']
      exact ⟨_, _, _, rfl, og2, ⟨y, _, rfl, rfl, w2⟩, fq2⟩
    · have v1' : ((doBook s.shards[i].book.list ⟨qe, 8, qi, qa, qt⟩).2 == 0) = true := by simpa using v1
      rw [v4]
      rw [v2] at eA
      simp only [rn, RO.dst, lk, drop, Nat.reduceBEq, Nat.reduceAdd, Nat.reduceLeDiff, ↓reduceIte, reduceCtorEq, Int.reduceLT, Int.reduceLE, Int.reduceGT, Int.reduceGE, Int.reduceBEq, Int.reduceBNe, Int.reduceEq, Int.reduceNe, Int.reduceNeg, l1, l2, l3, e1, e2, e3, hyi, hld, eC, hlen, g0, cA, cB, eB, hg1, st, eA, v1']
      exact ⟨_, _, _, rfl, og2, ⟨y, _, rfl, rfl, w2⟩, fq2⟩
    · have v1' : ((doBook s.shards[i].book.list ⟨qe, 8, qi, qa, qt⟩).2 == 0) = true := by simpa using v1
      rw [v6, Account.at_get v5]
      rw [v2, v3] at eA
      have hx := u2.idx v5
      have hl := u2.load v5
      simp only [Account.enc] at hl
      simp only [rn, RO.dst, lk, drop, Nat.reduceBEq, Nat.reduceAdd, Nat.reduceLeDiff, ↓reduceIte, reduceCtorEq, Int.reduceLT, Int.reduceLE, Int.reduceGT, Int.reduceGE, Int.reduceBEq, Int.reduceBNe, Int.reduceEq, Int.reduceNe, Int.reduceNeg, l1, l2, l3, e1, e2, e3, hyi, hld, eC, hlen, g0, cA, cB, eB, hg1, st, eA, v1', hx, hl]
      exact ⟨_, _, _, rfl, og2, ⟨y, _, rfl, rfl, w2⟩, fq2⟩
  | false =>
  have hR : refuse s.shards[i] ⟨qe, 8, qi, qa, qt⟩ = 0 := by simp [refuse, inR, Request.ends, Request.fin, cA', cB]
  rw [hR]
  simp only [beq_self_eq_true, cond_true]
  have hS : doShard s.shards[i] ⟨qe, 8, qi, qa, qt⟩ = { s.shards[i] with book := ⟨(doBook s.shards[i].book.list ⟨qe, 8, qi, qa, qt⟩).1⟩ } := by simp [doShard, Request.ends, Request.fin, cA', cB]
  rw [hS]
  have eA := accountOf_run (Z := Z) k.i10 u2 qi
  rcases val_cases (a := qi) (doBook_srt hbk ⟨qe, 8, qi, qa, qt⟩) with ⟨v1, v2⟩ | ⟨v1, v2, v3, v4⟩ | ⟨v1, j, v2, v3, v4, v5, v6⟩
  · have v1' : ((doBook s.shards[i].book.list ⟨qe, 8, qi, qa, qt⟩).2 == 0) = false := by simpa using v1
    rw [v2]
    simp only [rn, RO.dst, lk, drop, Nat.reduceBEq, Nat.reduceAdd, Nat.reduceLeDiff, ↓reduceIte, reduceCtorEq, Int.reduceLT, Int.reduceLE, Int.reduceGT, Int.reduceGE, Int.reduceBEq, Int.reduceBNe, Int.reduceEq, Int.reduceNe, Int.reduceNeg, l1, l2, l3, e1, e2, e3, hyi, hld, eC, hlen, g0, cA, cB, eB, hg1, st, eA, v1']
    exact ⟨_, _, _, rfl, og2, ⟨y, _, rfl, rfl, w2⟩, fq2⟩
  · have v1' : ((doBook s.shards[i].book.list ⟨qe, 8, qi, qa, qt⟩).2 == 0) = true := by simpa using v1
    rw [v4]
    rw [v2] at eA
    simp only [rn, RO.dst, lk, drop, Nat.reduceBEq, Nat.reduceAdd, Nat.reduceLeDiff, ↓reduceIte, reduceCtorEq, Int.reduceLT, Int.reduceLE, Int.reduceGT, Int.reduceGE, Int.reduceBEq, Int.reduceBNe, Int.reduceEq, Int.reduceNe, Int.reduceNeg, l1, l2, l3, e1, e2, e3, hyi, hld, eC, hlen, g0, cA, cB, eB, hg1, st, eA, v1']
    exact ⟨_, _, _, rfl, og2, ⟨y, _, rfl, rfl, w2⟩, fq2⟩
  · have v1' : ((doBook s.shards[i].book.list ⟨qe, 8, qi, qa, qt⟩).2 == 0) = true := by simpa using v1
    rw [v6, Account.at_get v5]
    rw [v2, v3] at eA
    have hx := u2.idx v5
    have hl := u2.load v5
    simp only [Account.enc] at hl
    simp only [rn, RO.dst, lk, drop, Nat.reduceBEq, Nat.reduceAdd, Nat.reduceLeDiff, ↓reduceIte, reduceCtorEq, Int.reduceLT, Int.reduceLE, Int.reduceGT, Int.reduceGE, Int.reduceBEq, Int.reduceBNe, Int.reduceEq, Int.reduceNe, Int.reduceNeg, l1, l2, l3, e1, e2, e3, hyi, hld, eC, hlen, g0, cA, cB, eB, hg1, st, eA, v1', hx, hl]
    exact ⟨_, _, _, rfl, og2, ⟨y, _, rfl, rfl, w2⟩, fq2⟩
end
end Go.Proofs.YtahkgghifaodoaaGreat.A
namespace Go.Proofs.YtahkgghifaodoaaGreat.A
open Go
set_option linter.unusedSimpArgs false
set_option linter.unusedVariables false
theorem doStore_small {s : Store} (sm : s.Small) (q : Request) : (doStore s q).1.Small := by
  unfold doStore
  cases hb : (s.good && inR q.op 0 8) with
  | false => exact sm
  | true =>
    by_cases h0 : 0 ≤ findId s.shards q.id
    · obtain ⟨i, e1, hi, _⟩ := findI_at h0
      have e2 : findId s.shards q.id = (i : Int) := e1
      rw [decide_eq_true h0, e2]
      simp only [cond_true, Int.toNat_natCast, Shard.at_get hi]
      cases (refuse s.shards[i] q == 0) with
      | false => exact sm
      | true =>
        simp only [Bool.and_eq_true] at hb
        have hf := Store.fit_at hb.1 hi
        simp only [Store.fits, Bool.and_eq_true, Shard.at_get hi, Shard.good, Shard.head, decide_eq_true_eq] at hf
        have hl := book_len hf.1.1.2.2.2.1
        have hfl := hf.1.1.2.2.2.2
        refine ⟨by show (s.shards.set i _).length ≤ _; rw [List.length_set]; exact sm.1, fun a ha => ?_⟩
        rcases List.mem_or_eq_of_mem_set ha with ha | rfl
        · exact sm.2 a ha
        · refine ⟨?_, ?_⟩
          · show (doBook _ q).1.length ≤ 1048576
            have := doBook_len (xs := s.shards[i].book.list) (q := q)
            omega
          · show (bif _ then _ else _ : List Fin).length ≤ 1048576
            cases (q.ends && !decide (q.fin ∈ s.shards[i].finished))
            · show s.shards[i].finished.length ≤ _; omega
            · show (sortFins _).length ≤ _; rw [sortFins_len, List.length_append]; simp; omega
    · rw [decide_eq_false h0]; exact sm
theorem op_cases {o : Int} (h : inR o 0 8 = true) : o = 0 ∨ o = 1 ∨ o = 2 ∨ o = 3 ∨ o = 4 ∨ o = 5 ∨ o = 6 ∨ o = 7 ∨ o = 8 := by
  simp only [inR, Bool.and_eq_true, decide_eq_true_eq] at h
  omega
section
variable {F : Nat → Option RF} {Z : CallF} {h : Heap} {cs : List Cell} {fp : List Nat} {s : Store}
theorem do_out (k : KI F) (hf : h.floor ≤ h.next) (v : Store.RI h cs s fp) {q : Request} (hin : inR q.op 0 8 = false) (ok : s.Ok) (sm : s.Small) : DoStoreAt F Z h cs s q := by
  unfold DoStoreAt
  obtain ⟨l1, l2, l3⟩ := Store.lenI v
  obtain ⟨cs1, h1, fr, e1, o1, v1, f1⟩ := copyStore_c (Z := Z) k hf v sm
  obtain ⟨h2, e2, o2⟩ := isStore_run (Z := Z) k (Store.okI.on v o1) ok
  obtain ⟨m1, m2, m3⟩ := Store.lenI v1
  rw [call_run F Z (k.i13.lk (g := 387) rfl) _ _ rfl, dost_bad (by simp [hin])]
  obtain ⟨qe, qo, qi, qa, qt⟩ := q
  simp only [Request.enc]
  cases hg : s.good with
  | false =>
    rw [hg] at e2
    simp only [rn, RO.dst, lk, drop, Nat.reduceBEq, Nat.reduceAdd, Nat.reduceLeDiff, ↓reduceIte, reduceCtorEq, l1, l2, l3, m1, m2, m3, e1, e2]
    exact ⟨_, _, _, rfl, o1.trans o2, Store.okI.on v1 o2, f1⟩
  | true =>
    rw [hg] at e2
    by_cases c1 : qo < 0
    · simp only [rn, RO.dst, lk, drop, Nat.reduceBEq, Nat.reduceAdd, Nat.reduceLeDiff, ↓reduceIte, reduceCtorEq, l1, l2, l3, m1, m2, m3, e1, e2, c1]
      exact ⟨_, _, _, rfl, o1.trans o2, Store.okI.on v1 o2, f1⟩
    · have c2 : qo > 8 := by
        simp only [inR, Bool.and_eq_false_iff, decide_eq_false_iff_not] at hin
        omega
      simp only [rn, RO.dst, lk, drop, Nat.reduceBEq, Nat.reduceAdd, Nat.reduceLeDiff, ↓reduceIte, reduceCtorEq, l1, l2, l3, m1, m2, m3, e1, e2, c1, c2]
      exact ⟨_, _, _, rfl, o1.trans o2, Store.okI.on v1 o2, f1⟩
theorem doStore_c (k : KI F) (hL : Has F tLibslicesIndexFuncimplShardimplShard) (pri : PrimAt F Z 343 (insF 11 40)) (prd : PrimAt F Z 348 (delF 11)) (prs : PrimAt F Z 375 (sortF 9 267)) (hf : h.floor ≤ h.next) (v : Store.RI h cs s fp) (q : Request) (okq : q.Ok) (ok : s.Ok) (sm : s.Small) : DoStoreAt F Z h cs s q := by
  cases hin : inR q.op 0 8 with
  | false => exact do_out k hf v hin ok sm
  | true =>
    obtain ⟨qe, qo, qi, qa, qt⟩ := q
    rcases op_cases hin with h | h | h | h | h | h | h | h | h <;> (simp only at h; subst h)
    · exact do_op0 k hL pri prd prs hf v qe qi qa qt okq ok sm
    · exact do_op1 k hL pri prd prs hf v qe qi qa qt okq ok sm
    · exact do_op2 k hL pri prd prs hf v qe qi qa qt okq ok sm
    · exact do_op3 k hL pri prd prs hf v qe qi qa qt okq ok sm
    · exact do_op4 k hL pri prd prs hf v qe qi qa qt okq ok sm
    · exact do_op5 k hL pri prd prs hf v qe qi qa qt okq ok sm
    · exact do_op6 k hL pri prd prs hf v qe qi qa qt okq ok sm
    · exact do_op7 k hL pri prd prs hf v qe qi qa qt okq ok sm
    · exact do_op8 k hL pri prd prs hf v qe qi qa qt okq ok sm
theorem DoStore_c (k : KI F) (hL : Has F tLibslicesIndexFuncimplShardimplShard) (pri : PrimAt F Z 343 (insF 11 40)) (prd : PrimAt F Z 348 (delF 11)) (prs : PrimAt F Z 375 (sortF 9 267)) (hf : h.floor ≤ h.next) (v : Store.RI h cs s fp) (q : Request) (okq : q.Ok) (ok : s.Ok) (sm : s.Small) :
    ∃ cs' h' fq, call F Z 382 [.agg cs, .agg q.enc] h = some (.tup [.agg cs', .c (.int .i64 (doStore s q).2.1), .c (.int .u64 (doStore s q).2.2)], h') ∧ On h h' ∧ Store.RI h' cs' (doStore s q).1 fq ∧ Fre h fq := by
  obtain ⟨l1, l2, l3⟩ := Store.lenI v
  obtain ⟨cs', h', fq, e, o, v', f⟩ := doStore_c (Z := Z) k hL pri prd prs hf v q okq ok sm
  obtain ⟨m1, m2, m3⟩ := Store.lenI v'
  rw [call_run F Z (k.i13.lk (g := 382) rfl) _ _ rfl]
  simp only [rn, RO.dst, lk, drop, Nat.reduceBEq, Nat.reduceAdd, Nat.reduceLeDiff, ↓reduceIte, reduceCtorEq, l1, l2, l3, Request.len, Request.tak, e, m1, m2, m3]
  exact ⟨_, _, _, rfl, o, v', f⟩
end
end Go.Proofs.YtahkgghifaodoaaGreat.A
namespace Go.Proofs.YtahkgghifaodoaaGreat.A
open Go
set_option linter.unusedSimpArgs false
set_option linter.unusedVariables false
section
variable {F : Nat → Option RF} {Z : CallF} {h : Heap} {x : Cell} {xs : List Account} {fp : List Nat}
set_option maxHeartbeats 1000000 in
theorem sLockDebit_c (hS10 : Has F tS10) (hf : h.floor ≤ h.next) (w : SlR 11 (Fl Account.enc) h x xs fp) (id m tx : Int) (hm : 0 ≤ m ∧ m ≤ 18446744073709551615) (hok : ∀ t, t ∈ xs → t.Ok) (sm : xs.length ≤ 1048576) :
    ∃ y h' fq, call F Z 388 [.agg [x], .c (.int .u64 id), .c (.int .u64 m), .c (.int .i64 tx)] h = some (.tup [.agg [y], .c (.int .i64 (bookTx xs id tx (lockDF m tx)).2)], h') ∧ On h h' ∧ SlR 11 (Fl Account.enc) h' y (bookTx xs id tx (lockDF m tx)).1 fq ∧ Fre h fq := by
  have e1 := l10Of_run (Z := Z) hS10 w id tx hok
  obtain ⟨y, h2, fq, e2, o2, w2, f2⟩ := l10Copy_c (Z := Z) hS10 hf w sm
  have z0 : ((0 : Int) != 0) = false := rfl
  have z1 : ((1 : Int) != 0) = true := rfl
  have z2 : ((2 : Int) != 0) = true := rfl
  rw [call_run F Z (hS10.lk (g := 388) rfl) _ _ rfl]
  by_cases ht : tx < 1
  · rw [of_tx ht] at e1
    rw [btx_bad ht]
    simp only [Account.enc, Account.none_] at e1
    simp only [rn, RO.dst, lk, drop, Nat.reduceBEq, Nat.reduceAdd, Nat.reduceLeDiff, ↓reduceIte, reduceCtorEq, z0, z1, z2, e1, e2]
    exact ⟨_, _, _, rfl, o2, w2, f2⟩
  rw [btx_do ht]
  cases hb : bookOk xs with
  | false =>
    rw [of_bad hb] at e1
    rw [do_bad hb]
    simp only [Account.enc, Account.none_] at e1
    simp only [rn, RO.dst, lk, drop, Nat.reduceBEq, Nat.reduceAdd, Nat.reduceLeDiff, ↓reduceIte, reduceCtorEq, z0, z1, z2, e1, e2]
    exact ⟨_, _, _, rfl, o2, w2, f2⟩
  | true =>
    rcases acc_found hb id with ⟨q1, _⟩ | ⟨i, q1, _, _, hi, q5⟩
    · rw [of_none hb ht q1] at e1
      rw [do_none hb q1]
      simp only [Account.enc, Account.none_] at e1
      simp only [rn, RO.dst, lk, drop, Nat.reduceBEq, Nat.reduceAdd, Nat.reduceLeDiff, ↓reduceIte, reduceCtorEq, z0, z1, z2, e1, e2]
      exact ⟨_, _, _, rfl, o2, w2, f2⟩
    · rw [of_at hb ht q1] at e1
      rw [do_at hb q1]
      have hfin := book_fine hb hi
      rw [Account.at_get hi] at e1 q5 hfin ⊢
      have hoki := hok _ (List.getElem_mem hi)
      have hbal := hoki.bal
      have hh := hoki.hold
      have hdu := hoki.due
      simp only [Account.fine, Bool.and_eq_true, decide_eq_true_eq] at hfin
      have hfl := hfin.1
      clear hfin hoki
      obtain ⟨z, h3, fr, e3, o3, w3, f3⟩ := l10With_c (Z := Z) hS10 hf w sm ⟨xs[i].id, xs[i].bal - m, m, xs[i].due, tx⟩
      rw [with_set hb hi (a := ⟨xs[i].id, xs[i].bal - m, m, xs[i].due, tx⟩) rfl] at w3
      simp only [Account.enc] at e1 e3
      generalize xs[i] = a at *
      by_cases c1 : a.tx = 0
      · have c1' : (a.tx != 0) = false := by simpa using c1
        by_cases c2 : m ≤ a.bal
        · have hd : lockDF m tx a = (0, { a with bal := a.bal - m, hold := m, tx := tx }) := by simp [lockDF, c1, c2]
          have htx : (tx == -1) = false := by simp; omega
          have hw : IntKind.u64.wrap (a.bal - m) = a.bal - m := wrapU _ (by omega) (by omega)
          have c3 : ¬ m > a.bal := by omega
          rw [hd]
          simp only [beq_self_eq_true, cond_true, htx, cond_false]
          simp only [rn, RO.dst, lk, drop, Nat.reduceBEq, Nat.reduceAdd, Nat.reduceLeDiff, ↓reduceIte, reduceCtorEq, z0, z1, z2, e1, hw, c1', c3, e3]
          exact ⟨_, _, _, rfl, o3, w3, f3⟩
        · have hd : lockDF m tx a = (4, a) := by simp [lockDF, c1, c2]
          have c3 : m > a.bal := by omega
          rw [hd]
          have h0 : ((4 : Int) == 0) = false := rfl
          simp only [h0, cond_false]
          simp only [rn, RO.dst, lk, drop, Nat.reduceBEq, Nat.reduceAdd, Nat.reduceLeDiff, ↓reduceIte, reduceCtorEq, z0, z1, z2, e1, c1', c3, e2]
          exact ⟨_, _, _, rfl, o2, w2, f2⟩
      · have c1' : (a.tx != 0) = true := by simpa using c1
        have hd : lockDF m tx a = (6, a) := by simp [lockDF, c1]
        rw [hd]
        have h0 : ((6 : Int) == 0) = false := rfl
        simp only [h0, cond_false]
        simp only [rn, RO.dst, lk, drop, Nat.reduceBEq, Nat.reduceAdd, Nat.reduceLeDiff, ↓reduceIte, reduceCtorEq, z0, z1, z2, e1, c1', e2]
        exact ⟨_, _, _, rfl, o2, w2, f2⟩
set_option maxHeartbeats 1000000 in
theorem sLockCredit_c (hS10 : Has F tS10) (hf : h.floor ≤ h.next) (w : SlR 11 (Fl Account.enc) h x xs fp) (id m tx : Int) (hm : 0 ≤ m ∧ m ≤ 18446744073709551615) (hok : ∀ t, t ∈ xs → t.Ok) (sm : xs.length ≤ 1048576) :
    ∃ y h' fq, call F Z 389 [.agg [x], .c (.int .u64 id), .c (.int .u64 m), .c (.int .i64 tx)] h = some (.tup [.agg [y], .c (.int .i64 (bookTx xs id tx (lockCF m tx)).2)], h') ∧ On h h' ∧ SlR 11 (Fl Account.enc) h' y (bookTx xs id tx (lockCF m tx)).1 fq ∧ Fre h fq := by
  have e1 := l10Of_run (Z := Z) hS10 w id tx hok
  obtain ⟨y, h2, fq, e2, o2, w2, f2⟩ := l10Copy_c (Z := Z) hS10 hf w sm
  have z0 : ((0 : Int) != 0) = false := rfl
  have z1 : ((1 : Int) != 0) = true := rfl
  have z2 : ((2 : Int) != 0) = true := rfl
  rw [call_run F Z (hS10.lk (g := 389) rfl) _ _ rfl]
  by_cases ht : tx < 1
  · rw [of_tx ht] at e1
    rw [btx_bad ht]
    simp only [Account.enc, Account.none_] at e1
    simp only [rn, RO.dst, lk, drop, Nat.reduceBEq, Nat.reduceAdd, Nat.reduceLeDiff, ↓reduceIte, reduceCtorEq, z0, z1, z2, e1, e2]
    exact ⟨_, _, _, rfl, o2, w2, f2⟩
  rw [btx_do ht]
  cases hb : bookOk xs with
  | false =>
    rw [of_bad hb] at e1
    rw [do_bad hb]
    simp only [Account.enc, Account.none_] at e1
    simp only [rn, RO.dst, lk, drop, Nat.reduceBEq, Nat.reduceAdd, Nat.reduceLeDiff, ↓reduceIte, reduceCtorEq, z0, z1, z2, e1, e2]
    exact ⟨_, _, _, rfl, o2, w2, f2⟩
  | true =>
    rcases acc_found hb id with ⟨q1, _⟩ | ⟨i, q1, _, _, hi, q5⟩
    · rw [of_none hb ht q1] at e1
      rw [do_none hb q1]
      simp only [Account.enc, Account.none_] at e1
      simp only [rn, RO.dst, lk, drop, Nat.reduceBEq, Nat.reduceAdd, Nat.reduceLeDiff, ↓reduceIte, reduceCtorEq, z0, z1, z2, e1, e2]
      exact ⟨_, _, _, rfl, o2, w2, f2⟩
    · rw [of_at hb ht q1] at e1
      rw [do_at hb q1]
      have hfin := book_fine hb hi
      rw [Account.at_get hi] at e1 q5 hfin ⊢
      have hoki := hok _ (List.getElem_mem hi)
      have hbal := hoki.bal
      have hh := hoki.hold
      have hdu := hoki.due
      simp only [Account.fine, Bool.and_eq_true, decide_eq_true_eq] at hfin
      have hfl := hfin.1
      clear hfin hoki
      obtain ⟨z, h3, fr, e3, o3, w3, f3⟩ := l10With_c (Z := Z) hS10 hf w sm ⟨xs[i].id, xs[i].bal, xs[i].hold, m, tx⟩
      rw [with_set hb hi (a := ⟨xs[i].id, xs[i].bal, xs[i].hold, m, tx⟩) rfl] at w3
      have hws : IntKind.u64.wrap (18446744073709551615 - xs[i].bal) = 18446744073709551615 - xs[i].bal := wrapU _ (by omega) (by omega)
      simp only [Account.enc] at e1 e3
      generalize xs[i] = a at *
      by_cases c1 : a.tx = 0
      · have c1' : (a.tx != 0) = false := by simpa using c1
        by_cases c2 : a.bal + m ≤ 18446744073709551615
        · have hd : lockCF m tx a = (0, { a with due := m, tx := tx }) := by simp [lockCF, c1, c2]
          have htx : (tx == -1) = false := by simp; omega
          have c3 : ¬ m > 18446744073709551615 - a.bal := by omega
          rw [hd]
          simp only [beq_self_eq_true, cond_true, htx, cond_false]
          simp only [rn, RO.dst, lk, drop, Nat.reduceBEq, Nat.reduceAdd, Nat.reduceLeDiff, ↓reduceIte, reduceCtorEq, z0, z1, z2, e1, hws, c1', c3, e3]
          exact ⟨_, _, _, rfl, o3, w3, f3⟩
        · have hd : lockCF m tx a = (5, a) := by simp [lockCF, c1, c2]
          have c3 : m > 18446744073709551615 - a.bal := by omega
          rw [hd]
          have h0 : ((5 : Int) == 0) = false := rfl
          simp only [h0, cond_false]
          simp only [rn, RO.dst, lk, drop, Nat.reduceBEq, Nat.reduceAdd, Nat.reduceLeDiff, ↓reduceIte, reduceCtorEq, z0, z1, z2, e1, hws, c1', c3, e2]
          exact ⟨_, _, _, rfl, o2, w2, f2⟩
      · have c1' : (a.tx != 0) = true := by simpa using c1
        have hd : lockCF m tx a = (6, a) := by simp [lockCF, c1]
        rw [hd]
        have h0 : ((6 : Int) == 0) = false := rfl
        simp only [h0, cond_false]
        simp only [rn, RO.dst, lk, drop, Nat.reduceBEq, Nat.reduceAdd, Nat.reduceLeDiff, ↓reduceIte, reduceCtorEq, z0, z1, z2, e1, c1', e2]
        exact ⟨_, _, _, rfl, o2, w2, f2⟩
set_option maxHeartbeats 1000000 in
theorem sSettleHold_c (hS10 : Has F tS10) (hf : h.floor ≤ h.next) (w : SlR 11 (Fl Account.enc) h x xs fp) (id tx : Int) (hok : ∀ t, t ∈ xs → t.Ok) (sm : xs.length ≤ 1048576) :
    ∃ y h' fq, call F Z 390 [.agg [x], .c (.int .u64 id), .c (.int .i64 tx)] h = some (.tup [.agg [y], .c (.int .i64 (bookTx xs id tx (settleF id tx)).2)], h') ∧ On h h' ∧ SlR 11 (Fl Account.enc) h' y (bookTx xs id tx (settleF id tx)).1 fq ∧ Fre h fq := by
  have e1 := l10Of_run (Z := Z) hS10 w id tx hok
  obtain ⟨y, h2, fq, e2, o2, w2, f2⟩ := l10Copy_c (Z := Z) hS10 hf w sm
  have z0 : ((0 : Int) != 0) = false := rfl
  have z1 : ((1 : Int) != 0) = true := rfl
  have z2 : ((2 : Int) != 0) = true := rfl
  rw [call_run F Z (hS10.lk (g := 390) rfl) _ _ rfl]
  by_cases ht : tx < 1
  · rw [of_tx ht] at e1
    rw [btx_bad ht]
    simp only [Account.enc, Account.none_] at e1
    simp only [rn, RO.dst, lk, drop, Nat.reduceBEq, Nat.reduceAdd, Nat.reduceLeDiff, ↓reduceIte, reduceCtorEq, z0, z1, z2, e1, e2]
    exact ⟨_, _, _, rfl, o2, w2, f2⟩
  rw [btx_do ht]
  cases hb : bookOk xs with
  | false =>
    rw [of_bad hb] at e1
    rw [do_bad hb]
    simp only [Account.enc, Account.none_] at e1
    simp only [rn, RO.dst, lk, drop, Nat.reduceBEq, Nat.reduceAdd, Nat.reduceLeDiff, ↓reduceIte, reduceCtorEq, z0, z1, z2, e1, e2]
    exact ⟨_, _, _, rfl, o2, w2, f2⟩
  | true =>
    rcases acc_found hb id with ⟨q1, _⟩ | ⟨i, q1, _, _, hi, q5⟩
    · rw [of_none hb ht q1] at e1
      rw [do_none hb q1]
      simp only [Account.enc, Account.none_] at e1
      simp only [rn, RO.dst, lk, drop, Nat.reduceBEq, Nat.reduceAdd, Nat.reduceLeDiff, ↓reduceIte, reduceCtorEq, z0, z1, z2, e1, e2]
      exact ⟨_, _, _, rfl, o2, w2, f2⟩
    · rw [of_at hb ht q1] at e1
      rw [do_at hb q1]
      have hfin := book_fine hb hi
      rw [Account.at_get hi] at e1 q5 hfin ⊢
      have hoki := hok _ (List.getElem_mem hi)
      have hbal := hoki.bal
      have hh := hoki.hold
      have hdu := hoki.due
      simp only [Account.fine, Bool.and_eq_true, decide_eq_true_eq] at hfin
      have hfl := hfin.1
      clear hfin hoki
      obtain ⟨z, h3, fr, e3, o3, w3, f3⟩ := l10With_c (Z := Z) hS10 hf w sm ⟨id, xs[i].bal + xs[i].due, 0, 0, 0⟩
      rw [with_set hb hi (a := ⟨id, xs[i].bal + xs[i].due, 0, 0, 0⟩) q5.symm] at w3
      have hw : IntKind.u64.wrap (xs[i].bal + xs[i].due) = xs[i].bal + xs[i].due := wrapU _ (by omega) (by omega)
      simp only [Account.enc] at e1 e3
      generalize xs[i] = a at *
      by_cases c1 : a.tx = tx
      · have c1' : (a.tx != tx) = false := by simpa using c1
        have hd : settleF id tx a = (0, ⟨id, a.bal + a.due, 0, 0, 0⟩) := by simp [settleF, c1]
        have htx : ((0 : Int) == -1) = false := rfl
        rw [hd]
        simp only [beq_self_eq_true, cond_true, htx, cond_false]
        simp only [rn, RO.dst, lk, drop, Nat.reduceBEq, Nat.reduceAdd, Nat.reduceLeDiff, ↓reduceIte, reduceCtorEq, z0, z1, z2, e1, hw, c1', e3]
        exact ⟨_, _, _, rfl, o3, w3, f3⟩
      · have c1' : (a.tx != tx) = true := by simpa using c1
        have hd : settleF id tx a = (7, a) := by simp [settleF, c1]
        rw [hd]
        have h0 : ((7 : Int) == 0) = false := rfl
        simp only [h0, cond_false]
        simp only [rn, RO.dst, lk, drop, Nat.reduceBEq, Nat.reduceAdd, Nat.reduceLeDiff, ↓reduceIte, reduceCtorEq, z0, z1, z2, e1, c1', e2]
        exact ⟨_, _, _, rfl, o2, w2, f2⟩
set_option maxHeartbeats 1000000 in
theorem sReleaseHold_c (hS10 : Has F tS10) (hf : h.floor ≤ h.next) (w : SlR 11 (Fl Account.enc) h x xs fp) (id tx : Int) (hok : ∀ t, t ∈ xs → t.Ok) (sm : xs.length ≤ 1048576) :
    ∃ y h' fq, call F Z 391 [.agg [x], .c (.int .u64 id), .c (.int .i64 tx)] h = some (.tup [.agg [y], .c (.int .i64 (bookTx xs id tx (releaseF id tx)).2)], h') ∧ On h h' ∧ SlR 11 (Fl Account.enc) h' y (bookTx xs id tx (releaseF id tx)).1 fq ∧ Fre h fq := by
  have e1 := l10Of_run (Z := Z) hS10 w id tx hok
  obtain ⟨y, h2, fq, e2, o2, w2, f2⟩ := l10Copy_c (Z := Z) hS10 hf w sm
  have z0 : ((0 : Int) != 0) = false := rfl
  have z1 : ((1 : Int) != 0) = true := rfl
  have z2 : ((2 : Int) != 0) = true := rfl
  rw [call_run F Z (hS10.lk (g := 391) rfl) _ _ rfl]
  by_cases ht : tx < 1
  · rw [of_tx ht] at e1
    rw [btx_bad ht]
    simp only [Account.enc, Account.none_] at e1
    simp only [rn, RO.dst, lk, drop, Nat.reduceBEq, Nat.reduceAdd, Nat.reduceLeDiff, ↓reduceIte, reduceCtorEq, z0, z1, z2, e1, e2]
    exact ⟨_, _, _, rfl, o2, w2, f2⟩
  rw [btx_do ht]
  cases hb : bookOk xs with
  | false =>
    rw [of_bad hb] at e1
    rw [do_bad hb]
    simp only [Account.enc, Account.none_] at e1
    simp only [rn, RO.dst, lk, drop, Nat.reduceBEq, Nat.reduceAdd, Nat.reduceLeDiff, ↓reduceIte, reduceCtorEq, z0, z1, z2, e1, e2]
    exact ⟨_, _, _, rfl, o2, w2, f2⟩
  | true =>
    rcases acc_found hb id with ⟨q1, _⟩ | ⟨i, q1, _, _, hi, q5⟩
    · rw [of_none hb ht q1] at e1
      rw [do_none hb q1]
      simp only [Account.enc, Account.none_] at e1
      simp only [rn, RO.dst, lk, drop, Nat.reduceBEq, Nat.reduceAdd, Nat.reduceLeDiff, ↓reduceIte, reduceCtorEq, z0, z1, z2, e1, e2]
      exact ⟨_, _, _, rfl, o2, w2, f2⟩
    · rw [of_at hb ht q1] at e1
      rw [do_at hb q1]
      have hfin := book_fine hb hi
      rw [Account.at_get hi] at e1 q5 hfin ⊢
      have hoki := hok _ (List.getElem_mem hi)
      have hbal := hoki.bal
      have hh := hoki.hold
      have hdu := hoki.due
      simp only [Account.fine, Bool.and_eq_true, decide_eq_true_eq] at hfin
      have hfl := hfin.1
      clear hfin hoki
      obtain ⟨z, h3, fr, e3, o3, w3, f3⟩ := l10With_c (Z := Z) hS10 hf w sm ⟨id, xs[i].bal + xs[i].hold, 0, 0, 0⟩
      rw [with_set hb hi (a := ⟨id, xs[i].bal + xs[i].hold, 0, 0, 0⟩) q5.symm] at w3
      have hw : IntKind.u64.wrap (xs[i].bal + xs[i].hold) = xs[i].bal + xs[i].hold := wrapU _ (by omega) (by omega)
      simp only [Account.enc] at e1 e3
      generalize xs[i] = a at *
      by_cases c1 : a.tx = tx
      · have c1' : (a.tx != tx) = false := by simpa using c1
        have hd : releaseF id tx a = (0, ⟨id, a.bal + a.hold, 0, 0, 0⟩) := by simp [releaseF, c1]
        have htx : ((0 : Int) == -1) = false := rfl
        rw [hd]
        simp only [beq_self_eq_true, cond_true, htx, cond_false]
        simp only [rn, RO.dst, lk, drop, Nat.reduceBEq, Nat.reduceAdd, Nat.reduceLeDiff, ↓reduceIte, reduceCtorEq, z0, z1, z2, e1, hw, c1', e3]
        exact ⟨_, _, _, rfl, o3, w3, f3⟩
      · have c1' : (a.tx != tx) = true := by simpa using c1
        have hd : releaseF id tx a = (7, a) := by simp [releaseF, c1]
        rw [hd]
        have h0 : ((7 : Int) == 0) = false := rfl
        simp only [h0, cond_false]
        simp only [rn, RO.dst, lk, drop, Nat.reduceBEq, Nat.reduceAdd, Nat.reduceLeDiff, ↓reduceIte, reduceCtorEq, z0, z1, z2, e1, c1', e2]
        exact ⟨_, _, _, rfl, o2, w2, f2⟩
end
end Go.Proofs.YtahkgghifaodoaaGreat.A
namespace Go.Proofs.YtahkgghifaodoaaGreat.A
open Go
set_option linter.unusedSimpArgs false
set_option linter.unusedVariables false
section
variable {F : Nat → Option RF} {Z : CallF} {h : Heap} {x : Cell} {xs : List Fin} {fp : List Nat}
theorem foldl_next {α β : Type} {f : β → α → β} {b : β} {xs : List α} {i : Nat} (hi : i < xs.length) : (xs.take (i + 1)).foldl f b = f ((xs.take i).foldl f b) xs[i] := by
  rw [List.take_add_one, List.getElem?_eq_getElem hi, List.foldl_append]; rfl
theorem addStep_len (f : Fin) (put : Bool) : ∀ (xs : List Fin) (b : List Fin × Bool), (xs.foldl (addStep f) b).1.length ≤ b.1.length + 2 * xs.length
  | [], b => by simp
  | x :: xs, b => by
    rw [List.foldl_cons]
    have := addStep_len f put xs (addStep f b x)
    have h2 : (addStep f b x).1.length ≤ b.1.length + 2 := by
      unfold addStep
      cases (!b.2 && decide (flt f x)) <;> simp
    simp only [List.length_cons]
    omega
set_option maxHeartbeats 1000000 in
theorem l13AddFin_c (hS13 : Has F tS13) (hf : h.floor ≤ h.next) (w : SlR 9 (Fl Fin.enc) h x xs fp) (hl : xs.length ≤ 1048576) (f : Fin) :
    ∃ y g fq, call F Z 374 [.c x, .agg f.enc] h = some (.c y, g) ∧ On h g ∧ SlR 9 (Fl Fin.enc) g y (addFin xs f) fq ∧ Fre h fq := by
  have hwl := w.len
  have e1 := fun h' (w' : SlR 9 (Fl Fin.enc) h' x xs fp) => l13Has_run (F := F) (Z := Z) hS13 w' f
  have e2 := e1 _ (w.on (Fl.ok _) (On.push h []))
  have e3 := fun b (h : Heap) => l13Before_run (F := F) (Z := Z) hS13 f b h
  rw [call_run F Z (hS13.lk (g := 374) rfl) _ _ rfl]
  simp only [Fin.enc] at e2
  simp only [rn, RO.dst, lk, drop, Nat.reduceBEq, Nat.reduceAdd, Nat.reduceLeDiff, ↓reduceIte, reduceCtorEq, Fin.enc, List.replicate_zero, fills, e2]
  obtain ⟨s', ⟨y, g, hs, a⟩, lp⟩ := loop_goes (F := F) (Z := Z) (live := [0, 3, 5, 6, 7]) (b := r374L0) xs.length (fun i st => ∃ y g, st = ⟨[(0, .c x), (5, .c y), (6, .c (.bool ((xs.take i).foldl (addStep f) ([], decide (f ∈ xs))).2)), (7, .c (.int .i64 (i : Nat)))], [(3, 3, 0)], [(3, f.enc)], g⟩ ∧ Acc 9 h g y (((xs.take i).foldl (addStep f) ([], decide (f ∈ xs))).1.map Fin.enc)) (fun i st hi' ⟨y, g, hs, a⟩ => by
    subst hs
    have hlt : (i : Int) < xs.length := by omega
    have hws := wrapS i (by omega)
    have hxi := w.idx hi'
    have hld2 : ∀ G, On h G → ∀ j n, loadP G x.sid i j n = cut? xs[i].enc j n := fun G o => (w.on (Fl.ok _) o).load hi'
    have hnx := foldl_next (f := addStep f) (b := ([], decide (f ∈ xs))) hi'
    have hlen := addStep_len f true (xs.take i) ([], decide (f ∈ xs))
    rw [List.length_take] at hlen
    rw [hnx]
    generalize (xs.take i).foldl (addStep f) ([], decide (f ∈ xs)) = st at *
    obtain ⟨rows, put⟩ := st
    dsimp only at a ⊢
    replace hlen : rows.length ≤ 2 * min i xs.length := by simpa using hlen
    rw [loop_run]
    conv in (codeF _ _ r374L0 _) => unfold r374L0
    have e4 := fun h => e3 xs[i] h
    generalize xs[i] = b at *
    have hst : addStep f (rows, put) b = bif !put && decide (flt f b) then (rows ++ [f] ++ [b], true) else (rows ++ [b], put) := rfl
    rw [hst]
    rw [cmp_flt] at e4
    obtain ⟨t, d⟩ := b
    obtain ⟨t', d'⟩ := f
    simp only [Fin.enc] at e4
    have a1 := a.one_eq hf (bytes := 16) (by rw [List.length_map]; omega) (Fin.enc ⟨t, d⟩)
    have a2 := a.one hf (by rw [List.length_map]; omega) (Fin.enc ⟨t, d⟩)
    have b1 := a.one_eq hf (bytes := 16) (by rw [List.length_map]; omega) (Fin.enc ⟨t', d'⟩)
    have b2 := a.one hf (by rw [List.length_map]; omega) (Fin.enc ⟨t', d'⟩)
    have hld3 := hld2 _ b2.on
    have hld := hld2 _ a.on
    have b3 := b2.one_eq hf (bytes := 16) (by rw [List.length_append, List.length_map]; simp; omega) (Fin.enc ⟨t, d⟩)
    have b4 := b2.one hf (by rw [List.length_append, List.length_map]; simp; omega) (Fin.enc ⟨t, d⟩)
    simp only [Fin.enc] at a1 a2 b1 b2 b3 b4 hld hld3
    cases put with
    | true =>
      simp only [rn, RO.dst, lk, drop, Nat.reduceBEq, Nat.reduceAdd, Nat.reduceLeDiff, ↓reduceIte, reduceCtorEq, hwl, hlt, hxi, hld, Fin.enc, List.replicate_succ, List.replicate_zero, fills, and_self, Nat.zero_lt_one, List.set_cons_zero, a1, hws]
      exact ⟨_, ⟨_, _, rfl, by simpa [Fin.enc] using a2⟩, rfl⟩
    | false =>
      by_cases hb : flt ⟨t', d'⟩ ⟨t, d⟩
      · simp only [decide_eq_true hb] at e4
        simp only [hb]
        simp only [rn, RO.dst, lk, drop, Nat.reduceBEq, Nat.reduceAdd, Nat.reduceLeDiff, ↓reduceIte, reduceCtorEq, hwl, hlt, hxi, hld, Fin.enc, e4, List.replicate_succ, List.replicate_zero, fills, and_self, Nat.zero_lt_one, List.set_cons_zero, b1, hld3, b3, hws]
        exact ⟨_, ⟨_, _, rfl, by simpa [Fin.enc] using b4⟩, rfl⟩
      · simp only [decide_eq_false hb] at e4
        simp only [hb]
        simp only [rn, RO.dst, lk, drop, Nat.reduceBEq, Nat.reduceAdd, Nat.reduceLeDiff, ↓reduceIte, reduceCtorEq, hwl, hlt, hxi, hld, Fin.enc, e4, List.replicate_succ, List.replicate_zero, fills, and_self, Nat.zero_lt_one, List.set_cons_zero, a1, hws]
        exact ⟨_, ⟨_, _, rfl, by simpa [Fin.enc] using a2⟩, rfl⟩) (s := ⟨[(0, .c x), (5, .c (.sl 9 h.next 0 0)), (6, .c (.bool (decide (f ∈ xs)))), (7, .c (.int .i64 (0 : Nat)))], [(3, 3, 0)], [(3, f.enc)], h.push []⟩) ⟨_, _, rfl, Acc.lit0 (On.refl h)⟩
  subst hs
  rw [List.take_length] at a
  have hlt : ¬ (xs.length : Int) < xs.length := by omega
  have hlen := addStep_len f true xs ([], decide (f ∈ xs))
  simp only [show ((0 : Nat) : Int) = 0 from rfl, Fin.enc, List.take_length] at lp
  rw [lp, loop_run]
  conv in (codeF _ _ r374L0 _) => unfold r374L0
  simp only [List.length_nil, Nat.zero_add] at hlen
  cases hp : (xs.foldl (addStep f) ([], decide (f ∈ xs))).2 with
  | true =>
    have hr : addFin xs f = (xs.foldl (addStep f) ([], decide (f ∈ xs))).1 := by simp [addFin, hp]
    rw [hr]
    obtain ⟨o1, fy, wy, fyr⟩ := a.flat (enc := Fin.enc)
    simp only [rn, RO.dst, lk, drop, Nat.reduceBEq, Nat.reduceAdd, Nat.reduceLeDiff, ↓reduceIte, reduceCtorEq, hwl, hlt]
    exact ⟨_, _, _, rfl, o1, wy, fyr⟩
  | false =>
    have hr : addFin xs f = (xs.foldl (addStep f) ([], decide (f ∈ xs))).1 ++ [f] := by simp [addFin, hp]
    rw [hr]
    have b1 := a.one_eq hf (bytes := 16) (by rw [List.length_map]; omega) f.enc
    have b2 := a.one hf (by rw [List.length_map]; omega) f.enc
    rw [show (xs.foldl (addStep f) ([], decide (f ∈ xs))).1.map Fin.enc ++ [f.enc] = ((xs.foldl (addStep f) ([], decide (f ∈ xs))).1 ++ [f]).map Fin.enc from by simp] at b2
    obtain ⟨o1, fy, wy, fyr⟩ := b2.flat (enc := Fin.enc)
    simp only [Fin.enc] at b1 o1 wy
    simp only [rn, RO.dst, lk, drop, Nat.reduceBEq, Nat.reduceAdd, Nat.reduceLeDiff, ↓reduceIte, reduceCtorEq, hwl, hlt, List.replicate_succ, List.replicate_zero, fills, and_self, Nat.zero_lt_one, List.set_cons_zero, b1]
    exact ⟨_, _, _, rfl, o1, wy, fyr⟩
end
end Go.Proofs.YtahkgghifaodoaaGreat.A
namespace Go.Proofs.YtahkgghifaodoaaGreat.A
open Go
set_option linter.unusedSimpArgs false
set_option linter.unusedVariables false
section
variable {F : Nat → Option RF} {Z : CallF} {h : Heap} {xs : List Shard}
theorem row_set {h6 : Heap} {y : Cell} {fr : List Nat} {i n : Nat} (o : On h h6) (hf : h.floor ≤ h.next) (w : SlR 16 Shard.RI h6 y xs fr) (f : Fre h fr) (hi : i < xs.length) {yb zf : Cell} {l : List Account} {fs : List Fin} {fb fz : List Nat}
    (u : SlR 11 (Fl Account.enc) h6 yb l fb) (v : SlR 9 (Fl Fin.enc) h6 zf fs fz) (nd : (fb ++ fz).Nodup) (hd : ∀ id, id ∈ fb ++ fz → n ≤ id) (hn : ∀ id, id ∈ fr → id < n) (hh : h.next ≤ n) :
    ∃ g fq, storeP h6 y.sid i 0 [.int .u64 xs[i].lo, .int .u64 xs[i].hi, .int .i64 xs[i].state, .int .i64 xs[i].epoch, yb, zf] = some g ∧ On h g ∧ Fre h fq ∧
      SlR 16 Shard.RI g y (xs.set i ⟨xs[i].lo, xs[i].hi, xs[i].state, xs[i].epoch, ⟨l⟩, fs⟩) fq ∧ SlR 11 (Fl Account.enc) g yb l fb := by
  obtain ⟨r, f1, rows, hR, hin, nf1, hs, hns, hsl, hg, hr, hil, _, fin⟩ := w.turnF Shard.okI f.nd hi
  obtain ⟨xb, pb, xf, pf, rfl, rfl, wb, wf⟩ := hR
  have hfl : h6.floor ≤ y.sid := by rw [o.fl]; exact Nat.le_trans hf (f.lo _ hs)
  have hst := storeP_at (h := h6) (id := y.sid) (i := i) (j := 0) (new := [.int .u64 xs[i].lo, .int .u64 xs[i].hi, .int .i64 xs[i].state, .int .i64 xs[i].epoch, yb, zf]) hfl hg hr rfl
  have hne : ∀ id, id ∈ fb ++ fz → id ≠ y.sid := fun id hid e => by
    subst e; have := hd _ hid; have := hn _ hs; omega
  have u2 := u.mv (h' := h6.put y.sid (rows.set i [.int .u64 xs[i].lo, .int .u64 xs[i].hi, .int .i64 xs[i].state, .int .i64 xs[i].epoch, yb, zf])) (Fl.ok _) (Nat.le_refl _) fun id hid => put_ne _ (hne id (List.mem_append_left _ hid))
  have v2 := v.mv (h' := h6.put y.sid (rows.set i [.int .u64 xs[i].lo, .int .u64 xs[i].hi, .int .i64 xs[i].state, .int .i64 xs[i].epoch, yb, zf])) (Fl.ok _) (Nat.le_refl _) fun id hid => put_ne _ (hne id (List.mem_append_right _ hid))
  obtain ⟨fq, w4, nq, sub⟩ := fin (h6.put y.sid (rows.set i [.int .u64 xs[i].lo, .int .u64 xs[i].hi, .int .i64 xs[i].state, .int .i64 xs[i].epoch, yb, zf])) [.int .u64 xs[i].lo, .int .u64 xs[i].hi, .int .i64 xs[i].state, .int .i64 xs[i].epoch, yb, zf] ⟨xs[i].lo, xs[i].hi, xs[i].state, xs[i].epoch, ⟨l⟩, fs⟩ (fb ++ fz) (Nat.le_refl _)
    (fun id h1 h2 h4 => put_ne _ h2) (by simp [Heap.put]) ⟨yb, fb, zf, fz, rfl, rfl, u2, v2⟩ nd (fun id hid => .inr fun hc => by have := hd _ hid; have := hn _ hc; omega)
  refine ⟨_, fq, hst, o.turned (Mk.put _ _ _) ⟨fun id hid => by simp only [List.mem_singleton] at hid; subst hid; exact f.lo _ hs, by simp⟩, ⟨fun id hid => ?_, nq⟩, w4, u2⟩
  rcases sub id hid with h1 | h1
  · exact f.lo id h1
  · have := hd _ h1; omega
end
def SDoStoreAt (F : Nat → Option RF) (Z : CallF) (h : Heap) (cs : List Cell) (s : Store) (q : Request) : Prop :=
  ∃ cs' h' fq, call F Z 381 [.agg cs, .agg q.enc] h = some (.tup [.agg cs', .c (.int .i64 (doStore s q).2.1), .c (.int .u64 (doStore s q).2.2)], h') ∧ On h h' ∧ Store.RI h' cs' (doStore s q).1 fq ∧ Fre h fq
end Go.Proofs.YtahkgghifaodoaaGreat.A
namespace Go.Proofs.YtahkgghifaodoaaGreat.A
open Go
set_option linter.unusedSimpArgs false
set_option linter.unusedVariables false
section
variable {F : Nat → Option RF} {Z : CallF} {h : Heap} {cs : List Cell} {fp : List Nat} {s : Store}
set_option maxHeartbeats 4000000 in
set_option maxRecDepth 8000 in
theorem sdo_op0 (k : KS F) (hf : h.floor ≤ h.next) (v : Store.RI h cs s fp) (qe qi qa qt : Int) (okq : (⟨qe, 0, qi, qa, qt⟩ : Request).Ok) (ok : s.Ok) (sm : s.Small) :
    SDoStoreAt F Z h cs s ⟨qe, 0, qi, qa, qt⟩ := by
  unfold SDoStoreAt
  obtain ⟨l1, l2, l3⟩ := Store.lenI v
  obtain ⟨cs1, h1, fr, e1, o1, v1, f1⟩ := l13Copy_c (Z := Z) k hf v sm
  have vh := Store.okI.on v o1
  have e2 := sStoreOk_run (Z := Z) k vh ok
  have e3 := l13Find_run (Z := Z) k.s13 vh qi
  have eI := fun (lo hi : Int) (h : Heap) => l01In_run (F := F) (Z := Z) k.s01 0 lo hi h
  simp only [inR] at eI
  obtain ⟨y, p, rfl, hp, w⟩ := v1
  subst hp
  rw [call_run F Z (k.s13.lk (g := 381) rfl) _ _ rfl]
  simp only [Request.enc]
  cases hg : s.good with
  | false =>
    rw [hg] at e2
    rw [dost_bad (by simp [hg])]
    simp only [rn, RO.dst, lk, drop, Nat.reduceBEq, Nat.reduceAdd, Nat.reduceLeDiff, ↓reduceIte, reduceCtorEq, Bool.and_self, Bool.and_true, Bool.true_and, Bool.and_false, Bool.false_and, Int.reduceLT, Int.reduceLE, Int.reduceGT, Int.reduceGE, Int.reduceBEq, Int.reduceBNe, Int.reduceEq, Int.reduceNe, Int.reduceNeg, l1, l2, l3, e1, e2]
    exact ⟨_, _, _, rfl, o1, ⟨y, _, rfl, rfl, w⟩, f1⟩
  | true =>
  rw [hg] at e2
  have hin : (s.good && inR (⟨qe, 0, qi, qa, qt⟩ : Request).op 0 8) = true := by rw [hg]; rfl
  obtain ⟨x, p, rfl, hp, wx⟩ := vh
  subst hp
  rcases wx.found (fun t => decide (t.lo ≤ qi) && decide (qi ≤ t.hi)) with q | ⟨i, q, hi, hpi, _⟩
  · change findId s.shards qi = -1 at q
    rw [dost_away hin q]
    rw [q] at e3
    simp only [rn, RO.dst, lk, drop, Nat.reduceBEq, Nat.reduceAdd, Nat.reduceLeDiff, ↓reduceIte, reduceCtorEq, Bool.and_self, Bool.and_true, Bool.true_and, Bool.and_false, Bool.false_and, Int.reduceLT, Int.reduceLE, Int.reduceGT, Int.reduceGE, Int.reduceBEq, Int.reduceBNe, Int.reduceEq, Int.reduceNe, Int.reduceNeg, l1, l2, l3, e1, e2, e3, eI]
    exact ⟨_, _, _, rfl, o1, ⟨y, _, rfl, rfl, w⟩, f1⟩
  change findId s.shards qi = (i : Int) at q
  rw [q] at e3
  rw [dost_at hin q, Shard.at_get hi]
  have g0 : ¬ (i : Int) < 0 := by omega
  have hxi := wx.idx hi
  have hyi := w.idx hi
  have okX := ok.shards _ (List.getElem_mem hi)
  have smX := sm.2 _ (List.getElem_mem hi)
  have smf : s.shards[i].finished.length ≤ 1048576 := smX.2
  have smb : s.shards[i].book.list.length ≤ 1048576 := smX.1
  have hgd : s.shards[i].good = true := by
    have := Store.fit_at hg hi
    simp only [Store.fits, Bool.and_eq_true, Shard.at_get hi] at this
    exact this.1
  have hso := Shard.good_sorted hgd
  have hbk : bookOk s.shards[i].book.list = true := by
    simp only [Bool.and_eq_true, Shard.good, Shard.head] at hgd
    exact hgd.1.2.2.2.1
  obtain ⟨r, fx, hld, hR0, _⟩ := wx.one hi
  obtain ⟨cs4, h4, ft, e4, o4, u4, f4⟩ := l13CopyShard_c (Z := Z) k.s10 k.s13 (o1.le hf) hR0 smX
  obtain ⟨xb, pb, xf, pf, rfl, rfl, wb, wf⟩ := hR0
  obtain ⟨b4, pb4, f4c, pf4, rfl, hq4, wb4, wf4⟩ := u4
  subst hq4
  obtain ⟨n4a, n4b, n4c⟩ := List.nodup_append.1 f4.nd
  have o04 := o1.trans o4
  have o4h := o04.le
  have w4 := w.on Shard.okI o4
  have lt4 := w4.lt Shard.okI
  have lt4f := wf4.lt (Fl.ok _)
  have eC := l13Has_run (F := F) (Z := Z) k.s13 wf4 ⟨qt, qi⟩
  simp only [Fin.enc] at eC
  have hlen := wf4.len
  cases cA : (s.shards[i].epoch != qe) with
  | true =>
    have cA' : (s.shards[i].epoch == qe) = false := by simpa using cA
    have hR : refuse s.shards[i] ⟨qe, 0, qi, qa, qt⟩ = 9 := by simp [refuse, inR, Request.ends, Request.fin, cA']
    rw [hR]
    simp only [show ((9 : Int) == 0) = false from rfl, cond_false]
    simp only [rn, RO.dst, lk, drop, Nat.reduceBEq, Nat.reduceAdd, Nat.reduceLeDiff, ↓reduceIte, reduceCtorEq, Bool.and_self, Bool.and_true, Bool.true_and, Bool.and_false, Bool.false_and, Int.reduceLT, Int.reduceLE, Int.reduceGT, Int.reduceGE, Int.reduceBEq, Int.reduceBNe, Int.reduceEq, Int.reduceNe, Int.reduceNeg, l1, l2, l3, e1, e2, e3, eI, hxi, hld, e4, eC, hlen, g0, cA]
    exact ⟨_, _, _, rfl, o04, ⟨y, _, rfl, rfl, w4⟩, f1⟩
  | false =>
  have cA' : (s.shards[i].epoch == qe) = true := by simpa using cA
  cases cB : (s.shards[i].state == 1) with
  | true =>
    have hR : refuse s.shards[i] ⟨qe, 0, qi, qa, qt⟩ = 10 := by simp [refuse, inR, Request.ends, Request.fin, cA', cB]
    rw [hR]
    simp only [show ((10 : Int) == 0) = false from rfl, cond_false]
    simp only [rn, RO.dst, lk, drop, Nat.reduceBEq, Nat.reduceAdd, Nat.reduceLeDiff, ↓reduceIte, reduceCtorEq, Bool.and_self, Bool.and_true, Bool.true_and, Bool.and_false, Bool.false_and, Int.reduceLT, Int.reduceLE, Int.reduceGT, Int.reduceGE, Int.reduceBEq, Int.reduceBNe, Int.reduceEq, Int.reduceNe, Int.reduceNeg, l1, l2, l3, e1, e2, e3, eI, hxi, hld, e4, eC, hlen, g0, cA, cB]
    exact ⟨_, _, _, rfl, o04, ⟨y, _, rfl, rfl, w4⟩, f1⟩
  | false =>
  have hR : refuse s.shards[i] ⟨qe, 0, qi, qa, qt⟩ = 0 := by simp [refuse, inR, Request.ends, Request.fin, cA', cB]
  rw [hR]
  simp only [beq_self_eq_true, cond_true]
  obtain ⟨yb, h5, fb, e5, o5, u5, f5⟩ := sOpenAccount_c (Z := Z) k.s10 (o4h hf) wb4 qi okX.book.list smb
  have ltb := u5.lt (Fl.ok _)
  have hA : doShard s.shards[i] ⟨qe, 0, qi, qa, qt⟩ = ⟨s.shards[i].lo, s.shards[i].hi, s.shards[i].state, s.shards[i].epoch, ⟨(doBook s.shards[i].book.list ⟨qe, 0, qi, qa, qt⟩).1⟩, s.shards[i].finished⟩ := by simp [doShard, Request.ends, Request.fin, cA', cB]
  obtain ⟨g, fq, st, og, fg, w7, u7⟩ := row_set (h := h) (o04.trans o5) hf (w4.on Shard.okI o5) f1 hi u5 (wf4.on (Fl.ok _) o5) (List.nodup_append.2 ⟨f5.nd, n4b, fun a ha b hb e => by subst e; have := f5.lo a ha; have := lt4f a hb; omega⟩) (fun id hid => by
    rcases List.mem_append.1 hid with h1 | h1
    · have := f5.lo id h1; have := o4.ext.1; omega
    · exact f4.lo id (List.mem_append_right _ h1)) (n := h1.next) (w.lt Shard.okI) o1.ext.1
  rw [hA]
  have eA := l10Find_run (F := F) (Z := Z) k.s10 u7 qi
  rcases val_cases (a := qi) (doBook_srt hbk ⟨qe, 0, qi, qa, qt⟩) with ⟨v1, v2⟩ | ⟨v1, v2, v3, v4⟩ | ⟨v1, j, v2, v3, v4, v5, v6⟩
  · have v1' : ((doBook s.shards[i].book.list ⟨qe, 0, qi, qa, qt⟩).2 == 0) = false := by simpa using v1
    rw [v2]
    change ((openBook s.shards[i].book.list qi).2 == 0) = false at v1'
    simp only [rn, RO.dst, lk, drop, Nat.reduceBEq, Nat.reduceAdd, Nat.reduceLeDiff, ↓reduceIte, reduceCtorEq, Bool.and_self, Bool.and_true, Bool.true_and, Bool.and_false, Bool.false_and, Int.reduceLT, Int.reduceLE, Int.reduceGT, Int.reduceGE, Int.reduceBEq, Int.reduceBNe, Int.reduceEq, Int.reduceNe, Int.reduceNeg, l1, l2, l3, e1, e2, e3, eI, hxi, hld, e4, eC, hlen, g0, cA, cB, e5, hyi, st, eA, v1']
    exact ⟨_, _, _, rfl, og, ⟨y, _, rfl, rfl, w7⟩, fg⟩
  · have v1' : ((doBook s.shards[i].book.list ⟨qe, 0, qi, qa, qt⟩).2 == 0) = true := by simpa using v1
    rw [v4]
    change ((openBook s.shards[i].book.list qi).2 == 0) = true at v1'
    change accAt (openBook s.shards[i].book.list qi).1 qi = -1 at v3
    rw [v3] at eA
    simp only [rn, RO.dst, lk, drop, Nat.reduceBEq, Nat.reduceAdd, Nat.reduceLeDiff, ↓reduceIte, reduceCtorEq, Bool.and_self, Bool.and_true, Bool.true_and, Bool.and_false, Bool.false_and, Int.reduceLT, Int.reduceLE, Int.reduceGT, Int.reduceGE, Int.reduceBEq, Int.reduceBNe, Int.reduceEq, Int.reduceNe, Int.reduceNeg, l1, l2, l3, e1, e2, e3, eI, hxi, hld, e4, eC, hlen, g0, cA, cB, e5, hyi, st, eA, v1']
    exact ⟨_, _, _, rfl, og, ⟨y, _, rfl, rfl, w7⟩, fg⟩
  · have v1' : ((doBook s.shards[i].book.list ⟨qe, 0, qi, qa, qt⟩).2 == 0) = true := by simpa using v1
    rw [v6, Account.at_get v5]
    change ((openBook s.shards[i].book.list qi).2 == 0) = true at v1'
    change accAt (openBook s.shards[i].book.list qi).1 qi = (j : Int) at v4
    have g1 : (j : Int) ≥ 0 := by omega
    rw [v4] at eA
    have hx := u7.idx v5
    have hl := u7.load v5
    simp only [Account.enc] at hl
    simp only [rn, RO.dst, lk, drop, Nat.reduceBEq, Nat.reduceAdd, Nat.reduceLeDiff, ↓reduceIte, reduceCtorEq, Bool.and_self, Bool.and_true, Bool.true_and, Bool.and_false, Bool.false_and, Int.reduceLT, Int.reduceLE, Int.reduceGT, Int.reduceGE, Int.reduceBEq, Int.reduceBNe, Int.reduceEq, Int.reduceNe, Int.reduceNeg, l1, l2, l3, e1, e2, e3, eI, hxi, hld, e4, eC, hlen, g0, cA, cB, e5, hyi, st, eA, v1', g1, hx, hl]
    exact ⟨_, _, _, rfl, og, ⟨y, _, rfl, rfl, w7⟩, fg⟩
set_option maxHeartbeats 4000000 in
set_option maxRecDepth 8000 in
theorem sdo_op1 (k : KS F) (hf : h.floor ≤ h.next) (v : Store.RI h cs s fp) (qe qi qa qt : Int) (okq : (⟨qe, 1, qi, qa, qt⟩ : Request).Ok) (ok : s.Ok) (sm : s.Small) :
    SDoStoreAt F Z h cs s ⟨qe, 1, qi, qa, qt⟩ := by
  unfold SDoStoreAt
  obtain ⟨l1, l2, l3⟩ := Store.lenI v
  obtain ⟨cs1, h1, fr, e1, o1, v1, f1⟩ := l13Copy_c (Z := Z) k hf v sm
  have vh := Store.okI.on v o1
  have e2 := sStoreOk_run (Z := Z) k vh ok
  have e3 := l13Find_run (Z := Z) k.s13 vh qi
  have eI := fun (lo hi : Int) (h : Heap) => l01In_run (F := F) (Z := Z) k.s01 1 lo hi h
  simp only [inR] at eI
  obtain ⟨y, p, rfl, hp, w⟩ := v1
  subst hp
  rw [call_run F Z (k.s13.lk (g := 381) rfl) _ _ rfl]
  simp only [Request.enc]
  cases hg : s.good with
  | false =>
    rw [hg] at e2
    rw [dost_bad (by simp [hg])]
    simp only [rn, RO.dst, lk, drop, Nat.reduceBEq, Nat.reduceAdd, Nat.reduceLeDiff, ↓reduceIte, reduceCtorEq, Bool.and_self, Bool.and_true, Bool.true_and, Bool.and_false, Bool.false_and, Int.reduceLT, Int.reduceLE, Int.reduceGT, Int.reduceGE, Int.reduceBEq, Int.reduceBNe, Int.reduceEq, Int.reduceNe, Int.reduceNeg, l1, l2, l3, e1, e2]
    exact ⟨_, _, _, rfl, o1, ⟨y, _, rfl, rfl, w⟩, f1⟩
  | true =>
  rw [hg] at e2
  have hin : (s.good && inR (⟨qe, 1, qi, qa, qt⟩ : Request).op 0 8) = true := by rw [hg]; rfl
  obtain ⟨x, p, rfl, hp, wx⟩ := vh
  subst hp
  rcases wx.found (fun t => decide (t.lo ≤ qi) && decide (qi ≤ t.hi)) with q | ⟨i, q, hi, hpi, _⟩
  · change findId s.shards qi = -1 at q
    rw [dost_away hin q]
    rw [q] at e3
    simp only [rn, RO.dst, lk, drop, Nat.reduceBEq, Nat.reduceAdd, Nat.reduceLeDiff, ↓reduceIte, reduceCtorEq, Bool.and_self, Bool.and_true, Bool.true_and, Bool.and_false, Bool.false_and, Int.reduceLT, Int.reduceLE, Int.reduceGT, Int.reduceGE, Int.reduceBEq, Int.reduceBNe, Int.reduceEq, Int.reduceNe, Int.reduceNeg, l1, l2, l3, e1, e2, e3, eI]
    exact ⟨_, _, _, rfl, o1, ⟨y, _, rfl, rfl, w⟩, f1⟩
  change findId s.shards qi = (i : Int) at q
  rw [q] at e3
  rw [dost_at hin q, Shard.at_get hi]
  have g0 : ¬ (i : Int) < 0 := by omega
  have hxi := wx.idx hi
  have hyi := w.idx hi
  have okX := ok.shards _ (List.getElem_mem hi)
  have smX := sm.2 _ (List.getElem_mem hi)
  have smf : s.shards[i].finished.length ≤ 1048576 := smX.2
  have smb : s.shards[i].book.list.length ≤ 1048576 := smX.1
  have hgd : s.shards[i].good = true := by
    have := Store.fit_at hg hi
    simp only [Store.fits, Bool.and_eq_true, Shard.at_get hi] at this
    exact this.1
  have hso := Shard.good_sorted hgd
  have hbk : bookOk s.shards[i].book.list = true := by
    simp only [Bool.and_eq_true, Shard.good, Shard.head] at hgd
    exact hgd.1.2.2.2.1
  obtain ⟨r, fx, hld, hR0, _⟩ := wx.one hi
  obtain ⟨cs4, h4, ft, e4, o4, u4, f4⟩ := l13CopyShard_c (Z := Z) k.s10 k.s13 (o1.le hf) hR0 smX
  obtain ⟨xb, pb, xf, pf, rfl, rfl, wb, wf⟩ := hR0
  obtain ⟨b4, pb4, f4c, pf4, rfl, hq4, wb4, wf4⟩ := u4
  subst hq4
  obtain ⟨n4a, n4b, n4c⟩ := List.nodup_append.1 f4.nd
  have o04 := o1.trans o4
  have o4h := o04.le
  have w4 := w.on Shard.okI o4
  have lt4 := w4.lt Shard.okI
  have lt4f := wf4.lt (Fl.ok _)
  have eC := l13Has_run (F := F) (Z := Z) k.s13 wf4 ⟨qt, qi⟩
  simp only [Fin.enc] at eC
  have hlen := wf4.len
  cases cA : (s.shards[i].epoch != qe) with
  | true =>
    have cA' : (s.shards[i].epoch == qe) = false := by simpa using cA
    have hR : refuse s.shards[i] ⟨qe, 1, qi, qa, qt⟩ = 9 := by simp [refuse, inR, Request.ends, Request.fin, cA']
    rw [hR]
    simp only [show ((9 : Int) == 0) = false from rfl, cond_false]
    simp only [rn, RO.dst, lk, drop, Nat.reduceBEq, Nat.reduceAdd, Nat.reduceLeDiff, ↓reduceIte, reduceCtorEq, Bool.and_self, Bool.and_true, Bool.true_and, Bool.and_false, Bool.false_and, Int.reduceLT, Int.reduceLE, Int.reduceGT, Int.reduceGE, Int.reduceBEq, Int.reduceBNe, Int.reduceEq, Int.reduceNe, Int.reduceNeg, l1, l2, l3, e1, e2, e3, eI, hxi, hld, e4, eC, hlen, g0, cA]
    exact ⟨_, _, _, rfl, o04, ⟨y, _, rfl, rfl, w4⟩, f1⟩
  | false =>
  have cA' : (s.shards[i].epoch == qe) = true := by simpa using cA
  cases cB : (s.shards[i].state == 1) with
  | true =>
    have hR : refuse s.shards[i] ⟨qe, 1, qi, qa, qt⟩ = 10 := by simp [refuse, inR, Request.ends, Request.fin, cA', cB]
    rw [hR]
    simp only [show ((10 : Int) == 0) = false from rfl, cond_false]
    simp only [rn, RO.dst, lk, drop, Nat.reduceBEq, Nat.reduceAdd, Nat.reduceLeDiff, ↓reduceIte, reduceCtorEq, Bool.and_self, Bool.and_true, Bool.true_and, Bool.and_false, Bool.false_and, Int.reduceLT, Int.reduceLE, Int.reduceGT, Int.reduceGE, Int.reduceBEq, Int.reduceBNe, Int.reduceEq, Int.reduceNe, Int.reduceNeg, l1, l2, l3, e1, e2, e3, eI, hxi, hld, e4, eC, hlen, g0, cA, cB]
    exact ⟨_, _, _, rfl, o04, ⟨y, _, rfl, rfl, w4⟩, f1⟩
  | false =>
  have hR : refuse s.shards[i] ⟨qe, 1, qi, qa, qt⟩ = 0 := by simp [refuse, inR, Request.ends, Request.fin, cA', cB]
  rw [hR]
  simp only [beq_self_eq_true, cond_true]
  obtain ⟨yb, h5, fb, e5, o5, u5, f5⟩ := sCloseAccount_c (Z := Z) k.s10 (o4h hf) wb4 qi okX.book.list smb
  have ltb := u5.lt (Fl.ok _)
  have hA : doShard s.shards[i] ⟨qe, 1, qi, qa, qt⟩ = ⟨s.shards[i].lo, s.shards[i].hi, s.shards[i].state, s.shards[i].epoch, ⟨(doBook s.shards[i].book.list ⟨qe, 1, qi, qa, qt⟩).1⟩, s.shards[i].finished⟩ := by simp [doShard, Request.ends, Request.fin, cA', cB]
  obtain ⟨g, fq, st, og, fg, w7, u7⟩ := row_set (h := h) (o04.trans o5) hf (w4.on Shard.okI o5) f1 hi u5 (wf4.on (Fl.ok _) o5) (List.nodup_append.2 ⟨f5.nd, n4b, fun a ha b hb e => by subst e; have := f5.lo a ha; have := lt4f a hb; omega⟩) (fun id hid => by
    rcases List.mem_append.1 hid with h1 | h1
    · have := f5.lo id h1; have := o4.ext.1; omega
    · exact f4.lo id (List.mem_append_right _ h1)) (n := h1.next) (w.lt Shard.okI) o1.ext.1
  rw [hA]
  have eA := l10Find_run (F := F) (Z := Z) k.s10 u7 qi
  rcases val_cases (a := qi) (doBook_srt hbk ⟨qe, 1, qi, qa, qt⟩) with ⟨v1, v2⟩ | ⟨v1, v2, v3, v4⟩ | ⟨v1, j, v2, v3, v4, v5, v6⟩
  · have v1' : ((doBook s.shards[i].book.list ⟨qe, 1, qi, qa, qt⟩).2 == 0) = false := by simpa using v1
    rw [v2]
    change ((bookDo s.shards[i].book.list qi closeF).2 == 0) = false at v1'
    simp only [rn, RO.dst, lk, drop, Nat.reduceBEq, Nat.reduceAdd, Nat.reduceLeDiff, ↓reduceIte, reduceCtorEq, Bool.and_self, Bool.and_true, Bool.true_and, Bool.and_false, Bool.false_and, Int.reduceLT, Int.reduceLE, Int.reduceGT, Int.reduceGE, Int.reduceBEq, Int.reduceBNe, Int.reduceEq, Int.reduceNe, Int.reduceNeg, l1, l2, l3, e1, e2, e3, eI, hxi, hld, e4, eC, hlen, g0, cA, cB, e5, hyi, st, eA, v1']
    exact ⟨_, _, _, rfl, og, ⟨y, _, rfl, rfl, w7⟩, fg⟩
  · have v1' : ((doBook s.shards[i].book.list ⟨qe, 1, qi, qa, qt⟩).2 == 0) = true := by simpa using v1
    rw [v4]
    change ((bookDo s.shards[i].book.list qi closeF).2 == 0) = true at v1'
    change accAt (bookDo s.shards[i].book.list qi closeF).1 qi = -1 at v3
    rw [v3] at eA
    simp only [rn, RO.dst, lk, drop, Nat.reduceBEq, Nat.reduceAdd, Nat.reduceLeDiff, ↓reduceIte, reduceCtorEq, Bool.and_self, Bool.and_true, Bool.true_and, Bool.and_false, Bool.false_and, Int.reduceLT, Int.reduceLE, Int.reduceGT, Int.reduceGE, Int.reduceBEq, Int.reduceBNe, Int.reduceEq, Int.reduceNe, Int.reduceNeg, l1, l2, l3, e1, e2, e3, eI, hxi, hld, e4, eC, hlen, g0, cA, cB, e5, hyi, st, eA, v1']
    exact ⟨_, _, _, rfl, og, ⟨y, _, rfl, rfl, w7⟩, fg⟩
  · have v1' : ((doBook s.shards[i].book.list ⟨qe, 1, qi, qa, qt⟩).2 == 0) = true := by simpa using v1
    rw [v6, Account.at_get v5]
    change ((bookDo s.shards[i].book.list qi closeF).2 == 0) = true at v1'
    change accAt (bookDo s.shards[i].book.list qi closeF).1 qi = (j : Int) at v4
    have g1 : (j : Int) ≥ 0 := by omega
    rw [v4] at eA
    have hx := u7.idx v5
    have hl := u7.load v5
    simp only [Account.enc] at hl
    simp only [rn, RO.dst, lk, drop, Nat.reduceBEq, Nat.reduceAdd, Nat.reduceLeDiff, ↓reduceIte, reduceCtorEq, Bool.and_self, Bool.and_true, Bool.true_and, Bool.and_false, Bool.false_and, Int.reduceLT, Int.reduceLE, Int.reduceGT, Int.reduceGE, Int.reduceBEq, Int.reduceBNe, Int.reduceEq, Int.reduceNe, Int.reduceNeg, l1, l2, l3, e1, e2, e3, eI, hxi, hld, e4, eC, hlen, g0, cA, cB, e5, hyi, st, eA, v1', g1, hx, hl]
    exact ⟨_, _, _, rfl, og, ⟨y, _, rfl, rfl, w7⟩, fg⟩
set_option maxHeartbeats 4000000 in
set_option maxRecDepth 8000 in
theorem sdo_op2 (k : KS F) (hf : h.floor ≤ h.next) (v : Store.RI h cs s fp) (qe qi qa qt : Int) (okq : (⟨qe, 2, qi, qa, qt⟩ : Request).Ok) (ok : s.Ok) (sm : s.Small) :
    SDoStoreAt F Z h cs s ⟨qe, 2, qi, qa, qt⟩ := by
  unfold SDoStoreAt
  obtain ⟨l1, l2, l3⟩ := Store.lenI v
  obtain ⟨cs1, h1, fr, e1, o1, v1, f1⟩ := l13Copy_c (Z := Z) k hf v sm
  have vh := Store.okI.on v o1
  have e2 := sStoreOk_run (Z := Z) k vh ok
  have e3 := l13Find_run (Z := Z) k.s13 vh qi
  have eI := fun (lo hi : Int) (h : Heap) => l01In_run (F := F) (Z := Z) k.s01 2 lo hi h
  simp only [inR] at eI
  obtain ⟨y, p, rfl, hp, w⟩ := v1
  subst hp
  rw [call_run F Z (k.s13.lk (g := 381) rfl) _ _ rfl]
  simp only [Request.enc]
  cases hg : s.good with
  | false =>
    rw [hg] at e2
    rw [dost_bad (by simp [hg])]
    simp only [rn, RO.dst, lk, drop, Nat.reduceBEq, Nat.reduceAdd, Nat.reduceLeDiff, ↓reduceIte, reduceCtorEq, Bool.and_self, Bool.and_true, Bool.true_and, Bool.and_false, Bool.false_and, Int.reduceLT, Int.reduceLE, Int.reduceGT, Int.reduceGE, Int.reduceBEq, Int.reduceBNe, Int.reduceEq, Int.reduceNe, Int.reduceNeg, l1, l2, l3, e1, e2]
    exact ⟨_, _, _, rfl, o1, ⟨y, _, rfl, rfl, w⟩, f1⟩
  | true =>
  rw [hg] at e2
  have hin : (s.good && inR (⟨qe, 2, qi, qa, qt⟩ : Request).op 0 8) = true := by rw [hg]; rfl
  obtain ⟨x, p, rfl, hp, wx⟩ := vh
  subst hp
  rcases wx.found (fun t => decide (t.lo ≤ qi) && decide (qi ≤ t.hi)) with q | ⟨i, q, hi, hpi, _⟩
  · change findId s.shards qi = -1 at q
    rw [dost_away hin q]
    rw [q] at e3
    simp only [rn, RO.dst, lk, drop, Nat.reduceBEq, Nat.reduceAdd, Nat.reduceLeDiff, ↓reduceIte, reduceCtorEq, Bool.and_self, Bool.and_true, Bool.true_and, Bool.and_false, Bool.false_and, Int.reduceLT, Int.reduceLE, Int.reduceGT, Int.reduceGE, Int.reduceBEq, Int.reduceBNe, Int.reduceEq, Int.reduceNe, Int.reduceNeg, l1, l2, l3, e1, e2, e3, eI]
    exact ⟨_, _, _, rfl, o1, ⟨y, _, rfl, rfl, w⟩, f1⟩
  change findId s.shards qi = (i : Int) at q
  rw [q] at e3
  rw [dost_at hin q, Shard.at_get hi]
  have g0 : ¬ (i : Int) < 0 := by omega
  have hxi := wx.idx hi
  have hyi := w.idx hi
  have okX := ok.shards _ (List.getElem_mem hi)
  have smX := sm.2 _ (List.getElem_mem hi)
  have smf : s.shards[i].finished.length ≤ 1048576 := smX.2
  have smb : s.shards[i].book.list.length ≤ 1048576 := smX.1
  have hgd : s.shards[i].good = true := by
    have := Store.fit_at hg hi
    simp only [Store.fits, Bool.and_eq_true, Shard.at_get hi] at this
    exact this.1
  have hso := Shard.good_sorted hgd
  have hbk : bookOk s.shards[i].book.list = true := by
    simp only [Bool.and_eq_true, Shard.good, Shard.head] at hgd
    exact hgd.1.2.2.2.1
  obtain ⟨r, fx, hld, hR0, _⟩ := wx.one hi
  obtain ⟨cs4, h4, ft, e4, o4, u4, f4⟩ := l13CopyShard_c (Z := Z) k.s10 k.s13 (o1.le hf) hR0 smX
  obtain ⟨xb, pb, xf, pf, rfl, rfl, wb, wf⟩ := hR0
  obtain ⟨b4, pb4, f4c, pf4, rfl, hq4, wb4, wf4⟩ := u4
  subst hq4
  obtain ⟨n4a, n4b, n4c⟩ := List.nodup_append.1 f4.nd
  have o04 := o1.trans o4
  have o4h := o04.le
  have w4 := w.on Shard.okI o4
  have lt4 := w4.lt Shard.okI
  have lt4f := wf4.lt (Fl.ok _)
  have eC := l13Has_run (F := F) (Z := Z) k.s13 wf4 ⟨qt, qi⟩
  simp only [Fin.enc] at eC
  have hlen := wf4.len
  cases cA : (s.shards[i].epoch != qe) with
  | true =>
    have cA' : (s.shards[i].epoch == qe) = false := by simpa using cA
    have hR : refuse s.shards[i] ⟨qe, 2, qi, qa, qt⟩ = 9 := by simp [refuse, inR, Request.ends, Request.fin, cA']
    rw [hR]
    simp only [show ((9 : Int) == 0) = false from rfl, cond_false]
    simp only [rn, RO.dst, lk, drop, Nat.reduceBEq, Nat.reduceAdd, Nat.reduceLeDiff, ↓reduceIte, reduceCtorEq, Bool.and_self, Bool.and_true, Bool.true_and, Bool.and_false, Bool.false_and, Int.reduceLT, Int.reduceLE, Int.reduceGT, Int.reduceGE, Int.reduceBEq, Int.reduceBNe, Int.reduceEq, Int.reduceNe, Int.reduceNeg, l1, l2, l3, e1, e2, e3, eI, hxi, hld, e4, eC, hlen, g0, cA]
    exact ⟨_, _, _, rfl, o04, ⟨y, _, rfl, rfl, w4⟩, f1⟩
  | false =>
  have cA' : (s.shards[i].epoch == qe) = true := by simpa using cA
  cases cB : (s.shards[i].state == 1) with
  | true =>
    have hR : refuse s.shards[i] ⟨qe, 2, qi, qa, qt⟩ = 10 := by simp [refuse, inR, Request.ends, Request.fin, cA', cB]
    rw [hR]
    simp only [show ((10 : Int) == 0) = false from rfl, cond_false]
    simp only [rn, RO.dst, lk, drop, Nat.reduceBEq, Nat.reduceAdd, Nat.reduceLeDiff, ↓reduceIte, reduceCtorEq, Bool.and_self, Bool.and_true, Bool.true_and, Bool.and_false, Bool.false_and, Int.reduceLT, Int.reduceLE, Int.reduceGT, Int.reduceGE, Int.reduceBEq, Int.reduceBNe, Int.reduceEq, Int.reduceNe, Int.reduceNeg, l1, l2, l3, e1, e2, e3, eI, hxi, hld, e4, eC, hlen, g0, cA, cB]
    exact ⟨_, _, _, rfl, o04, ⟨y, _, rfl, rfl, w4⟩, f1⟩
  | false =>
  have hR : refuse s.shards[i] ⟨qe, 2, qi, qa, qt⟩ = 0 := by simp [refuse, inR, Request.ends, Request.fin, cA', cB]
  rw [hR]
  simp only [beq_self_eq_true, cond_true]
  obtain ⟨yb, h5, fb, e5, o5, u5, f5⟩ := sDeposit_c (Z := Z) k.s10 (o4h hf) wb4 qi qa okq.amount okX.book.list smb
  have ltb := u5.lt (Fl.ok _)
  have hA : doShard s.shards[i] ⟨qe, 2, qi, qa, qt⟩ = ⟨s.shards[i].lo, s.shards[i].hi, s.shards[i].state, s.shards[i].epoch, ⟨(doBook s.shards[i].book.list ⟨qe, 2, qi, qa, qt⟩).1⟩, s.shards[i].finished⟩ := by simp [doShard, Request.ends, Request.fin, cA', cB]
  obtain ⟨g, fq, st, og, fg, w7, u7⟩ := row_set (h := h) (o04.trans o5) hf (w4.on Shard.okI o5) f1 hi u5 (wf4.on (Fl.ok _) o5) (List.nodup_append.2 ⟨f5.nd, n4b, fun a ha b hb e => by subst e; have := f5.lo a ha; have := lt4f a hb; omega⟩) (fun id hid => by
    rcases List.mem_append.1 hid with h1 | h1
    · have := f5.lo id h1; have := o4.ext.1; omega
    · exact f4.lo id (List.mem_append_right _ h1)) (n := h1.next) (w.lt Shard.okI) o1.ext.1
  rw [hA]
  have eA := l10Find_run (F := F) (Z := Z) k.s10 u7 qi
  rcases val_cases (a := qi) (doBook_srt hbk ⟨qe, 2, qi, qa, qt⟩) with ⟨v1, v2⟩ | ⟨v1, v2, v3, v4⟩ | ⟨v1, j, v2, v3, v4, v5, v6⟩
  · have v1' : ((doBook s.shards[i].book.list ⟨qe, 2, qi, qa, qt⟩).2 == 0) = false := by simpa using v1
    rw [v2]
    change ((bookDo s.shards[i].book.list qi (depF qa)).2 == 0) = false at v1'
    simp only [rn, RO.dst, lk, drop, Nat.reduceBEq, Nat.reduceAdd, Nat.reduceLeDiff, ↓reduceIte, reduceCtorEq, Bool.and_self, Bool.and_true, Bool.true_and, Bool.and_false, Bool.false_and, Int.reduceLT, Int.reduceLE, Int.reduceGT, Int.reduceGE, Int.reduceBEq, Int.reduceBNe, Int.reduceEq, Int.reduceNe, Int.reduceNeg, l1, l2, l3, e1, e2, e3, eI, hxi, hld, e4, eC, hlen, g0, cA, cB, e5, hyi, st, eA, v1']
    exact ⟨_, _, _, rfl, og, ⟨y, _, rfl, rfl, w7⟩, fg⟩
  · have v1' : ((doBook s.shards[i].book.list ⟨qe, 2, qi, qa, qt⟩).2 == 0) = true := by simpa using v1
    rw [v4]
    change ((bookDo s.shards[i].book.list qi (depF qa)).2 == 0) = true at v1'
    change accAt (bookDo s.shards[i].book.list qi (depF qa)).1 qi = -1 at v3
    rw [v3] at eA
    simp only [rn, RO.dst, lk, drop, Nat.reduceBEq, Nat.reduceAdd, Nat.reduceLeDiff, ↓reduceIte, reduceCtorEq, Bool.and_self, Bool.and_true, Bool.true_and, Bool.and_false, Bool.false_and, Int.reduceLT, Int.reduceLE, Int.reduceGT, Int.reduceGE, Int.reduceBEq, Int.reduceBNe, Int.reduceEq, Int.reduceNe, Int.reduceNeg, l1, l2, l3, e1, e2, e3, eI, hxi, hld, e4, eC, hlen, g0, cA, cB, e5, hyi, st, eA, v1']
    exact ⟨_, _, _, rfl, og, ⟨y, _, rfl, rfl, w7⟩, fg⟩
  · have v1' : ((doBook s.shards[i].book.list ⟨qe, 2, qi, qa, qt⟩).2 == 0) = true := by simpa using v1
    rw [v6, Account.at_get v5]
    change ((bookDo s.shards[i].book.list qi (depF qa)).2 == 0) = true at v1'
    change accAt (bookDo s.shards[i].book.list qi (depF qa)).1 qi = (j : Int) at v4
    have g1 : (j : Int) ≥ 0 := by omega
    rw [v4] at eA
    have hx := u7.idx v5
    have hl := u7.load v5
    simp only [Account.enc] at hl
    simp only [rn, RO.dst, lk, drop, Nat.reduceBEq, Nat.reduceAdd, Nat.reduceLeDiff, ↓reduceIte, reduceCtorEq, Bool.and_self, Bool.and_true, Bool.true_and, Bool.and_false, Bool.false_and, Int.reduceLT, Int.reduceLE, Int.reduceGT, Int.reduceGE, Int.reduceBEq, Int.reduceBNe, Int.reduceEq, Int.reduceNe, Int.reduceNeg, l1, l2, l3, e1, e2, e3, eI, hxi, hld, e4, eC, hlen, g0, cA, cB, e5, hyi, st, eA, v1', g1, hx, hl]
    exact ⟨_, _, _, rfl, og, ⟨y, _, rfl, rfl, w7⟩, fg⟩
end
end Go.Proofs.YtahkgghifaodoaaGreat.A
namespace Go.Proofs.YtahkgghifaodoaaGreat.A
open Go
set_option linter.unusedSimpArgs false
set_option linter.unusedVariables false
section
variable {F : Nat → Option RF} {Z : CallF} {h : Heap} {cs : List Cell} {fp : List Nat} {s : Store}
set_option maxHeartbeats 4000000 in
set_option maxRecDepth 8000 in
theorem sdo_op3 (k : KS F) (hf : h.floor ≤ h.next) (v : Store.RI h cs s fp) (qe qi qa qt : Int) (okq : (⟨qe, 3, qi, qa, qt⟩ : Request).Ok) (ok : s.Ok) (sm : s.Small) :
    SDoStoreAt F Z h cs s ⟨qe, 3, qi, qa, qt⟩ := by
  unfold SDoStoreAt
  obtain ⟨l1, l2, l3⟩ := Store.lenI v
  obtain ⟨cs1, h1, fr, e1, o1, v1, f1⟩ := l13Copy_c (Z := Z) k hf v sm
  have vh := Store.okI.on v o1
  have e2 := sStoreOk_run (Z := Z) k vh ok
  have e3 := l13Find_run (Z := Z) k.s13 vh qi
  have eI := fun (lo hi : Int) (h : Heap) => l01In_run (F := F) (Z := Z) k.s01 3 lo hi h
  simp only [inR] at eI
  obtain ⟨y, p, rfl, hp, w⟩ := v1
  subst hp
  rw [call_run F Z (k.s13.lk (g := 381) rfl) _ _ rfl]
  simp only [Request.enc]
  cases hg : s.good with
  | false =>
    rw [hg] at e2
    rw [dost_bad (by simp [hg])]
    simp only [rn, RO.dst, lk, drop, Nat.reduceBEq, Nat.reduceAdd, Nat.reduceLeDiff, ↓reduceIte, reduceCtorEq, Bool.and_self, Bool.and_true, Bool.true_and, Bool.and_false, Bool.false_and, Int.reduceLT, Int.reduceLE, Int.reduceGT, Int.reduceGE, Int.reduceBEq, Int.reduceBNe, Int.reduceEq, Int.reduceNe, Int.reduceNeg, l1, l2, l3, e1, e2]
    exact ⟨_, _, _, rfl, o1, ⟨y, _, rfl, rfl, w⟩, f1⟩
  | true =>
  rw [hg] at e2
  have hin : (s.good && inR (⟨qe, 3, qi, qa, qt⟩ : Request).op 0 8) = true := by rw [hg]; rfl
  obtain ⟨x, p, rfl, hp, wx⟩ := vh
  subst hp
  rcases wx.found (fun t => decide (t.lo ≤ qi) && decide (qi ≤ t.hi)) with q | ⟨i, q, hi, hpi, _⟩
  · change findId s.shards qi = -1 at q
    rw [dost_away hin q]
    rw [q] at e3
    simp only [rn, RO.dst, lk, drop, Nat.reduceBEq, Nat.reduceAdd, Nat.reduceLeDiff, ↓reduceIte, reduceCtorEq, Bool.and_self, Bool.and_true, Bool.true_and, Bool.and_false, Bool.false_and, Int.reduceLT, Int.reduceLE, Int.reduceGT, Int.reduceGE, Int.reduceBEq, Int.reduceBNe, Int.reduceEq, Int.reduceNe, Int.reduceNeg, l1, l2, l3, e1, e2, e3, eI]
    exact ⟨_, _, _, rfl, o1, ⟨y, _, rfl, rfl, w⟩, f1⟩
  change findId s.shards qi = (i : Int) at q
  rw [q] at e3
  rw [dost_at hin q, Shard.at_get hi]
  have g0 : ¬ (i : Int) < 0 := by omega
  have hxi := wx.idx hi
  have hyi := w.idx hi
  have okX := ok.shards _ (List.getElem_mem hi)
  have smX := sm.2 _ (List.getElem_mem hi)
  have smf : s.shards[i].finished.length ≤ 1048576 := smX.2
  have smb : s.shards[i].book.list.length ≤ 1048576 := smX.1
  have hgd : s.shards[i].good = true := by
    have := Store.fit_at hg hi
    simp only [Store.fits, Bool.and_eq_true, Shard.at_get hi] at this
    exact this.1
  have hso := Shard.good_sorted hgd
  have hbk : bookOk s.shards[i].book.list = true := by
    simp only [Bool.and_eq_true, Shard.good, Shard.head] at hgd
    exact hgd.1.2.2.2.1
  obtain ⟨r, fx, hld, hR0, _⟩ := wx.one hi
  obtain ⟨cs4, h4, ft, e4, o4, u4, f4⟩ := l13CopyShard_c (Z := Z) k.s10 k.s13 (o1.le hf) hR0 smX
  obtain ⟨xb, pb, xf, pf, rfl, rfl, wb, wf⟩ := hR0
  obtain ⟨b4, pb4, f4c, pf4, rfl, hq4, wb4, wf4⟩ := u4
  subst hq4
  obtain ⟨n4a, n4b, n4c⟩ := List.nodup_append.1 f4.nd
  have o04 := o1.trans o4
  have o4h := o04.le
  have w4 := w.on Shard.okI o4
  have lt4 := w4.lt Shard.okI
  have lt4f := wf4.lt (Fl.ok _)
  have eC := l13Has_run (F := F) (Z := Z) k.s13 wf4 ⟨qt, qi⟩
  simp only [Fin.enc] at eC
  have hlen := wf4.len
  cases cA : (s.shards[i].epoch != qe) with
  | true =>
    have cA' : (s.shards[i].epoch == qe) = false := by simpa using cA
    have hR : refuse s.shards[i] ⟨qe, 3, qi, qa, qt⟩ = 9 := by simp [refuse, inR, Request.ends, Request.fin, cA']
    rw [hR]
    simp only [show ((9 : Int) == 0) = false from rfl, cond_false]
    simp only [rn, RO.dst, lk, drop, Nat.reduceBEq, Nat.reduceAdd, Nat.reduceLeDiff, ↓reduceIte, reduceCtorEq, Bool.and_self, Bool.and_true, Bool.true_and, Bool.and_false, Bool.false_and, Int.reduceLT, Int.reduceLE, Int.reduceGT, Int.reduceGE, Int.reduceBEq, Int.reduceBNe, Int.reduceEq, Int.reduceNe, Int.reduceNeg, l1, l2, l3, e1, e2, e3, eI, hxi, hld, e4, eC, hlen, g0, cA]
    exact ⟨_, _, _, rfl, o04, ⟨y, _, rfl, rfl, w4⟩, f1⟩
  | false =>
  have cA' : (s.shards[i].epoch == qe) = true := by simpa using cA
  cases cB : (s.shards[i].state == 1) with
  | true =>
    have hR : refuse s.shards[i] ⟨qe, 3, qi, qa, qt⟩ = 10 := by simp [refuse, inR, Request.ends, Request.fin, cA', cB]
    rw [hR]
    simp only [show ((10 : Int) == 0) = false from rfl, cond_false]
    simp only [rn, RO.dst, lk, drop, Nat.reduceBEq, Nat.reduceAdd, Nat.reduceLeDiff, ↓reduceIte, reduceCtorEq, Bool.and_self, Bool.and_true, Bool.true_and, Bool.and_false, Bool.false_and, Int.reduceLT, Int.reduceLE, Int.reduceGT, Int.reduceGE, Int.reduceBEq, Int.reduceBNe, Int.reduceEq, Int.reduceNe, Int.reduceNeg, l1, l2, l3, e1, e2, e3, eI, hxi, hld, e4, eC, hlen, g0, cA, cB]
    exact ⟨_, _, _, rfl, o04, ⟨y, _, rfl, rfl, w4⟩, f1⟩
  | false =>
  have hR : refuse s.shards[i] ⟨qe, 3, qi, qa, qt⟩ = 0 := by simp [refuse, inR, Request.ends, Request.fin, cA', cB]
  rw [hR]
  simp only [beq_self_eq_true, cond_true]
  obtain ⟨yb, h5, fb, e5, o5, u5, f5⟩ := sWithdraw_c (Z := Z) k.s10 (o4h hf) wb4 qi qa okq.amount okX.book.list smb
  have ltb := u5.lt (Fl.ok _)
  have hA : doShard s.shards[i] ⟨qe, 3, qi, qa, qt⟩ = ⟨s.shards[i].lo, s.shards[i].hi, s.shards[i].state, s.shards[i].epoch, ⟨(doBook s.shards[i].book.list ⟨qe, 3, qi, qa, qt⟩).1⟩, s.shards[i].finished⟩ := by simp [doShard, Request.ends, Request.fin, cA', cB]
  obtain ⟨g, fq, st, og, fg, w7, u7⟩ := row_set (h := h) (o04.trans o5) hf (w4.on Shard.okI o5) f1 hi u5 (wf4.on (Fl.ok _) o5) (List.nodup_append.2 ⟨f5.nd, n4b, fun a ha b hb e => by subst e; have := f5.lo a ha; have := lt4f a hb; omega⟩) (fun id hid => by
    rcases List.mem_append.1 hid with h1 | h1
    · have := f5.lo id h1; have := o4.ext.1; omega
    · exact f4.lo id (List.mem_append_right _ h1)) (n := h1.next) (w.lt Shard.okI) o1.ext.1
  rw [hA]
  have eA := l10Find_run (F := F) (Z := Z) k.s10 u7 qi
  rcases val_cases (a := qi) (doBook_srt hbk ⟨qe, 3, qi, qa, qt⟩) with ⟨v1, v2⟩ | ⟨v1, v2, v3, v4⟩ | ⟨v1, j, v2, v3, v4, v5, v6⟩
  · have v1' : ((doBook s.shards[i].book.list ⟨qe, 3, qi, qa, qt⟩).2 == 0) = false := by simpa using v1
    rw [v2]
    change ((bookDo s.shards[i].book.list qi (witF qa)).2 == 0) = false at v1'
    simp only [rn, RO.dst, lk, drop, Nat.reduceBEq, Nat.reduceAdd, Nat.reduceLeDiff, ↓reduceIte, reduceCtorEq, Bool.and_self, Bool.and_true, Bool.true_and, Bool.and_false, Bool.false_and, Int.reduceLT, Int.reduceLE, Int.reduceGT, Int.reduceGE, Int.reduceBEq, Int.reduceBNe, Int.reduceEq, Int.reduceNe, Int.reduceNeg, l1, l2, l3, e1, e2, e3, eI, hxi, hld, e4, eC, hlen, g0, cA, cB, e5, hyi, st, eA, v1']
    exact ⟨_, _, _, rfl, og, ⟨y, _, rfl, rfl, w7⟩, fg⟩
  · have v1' : ((doBook s.shards[i].book.list ⟨qe, 3, qi, qa, qt⟩).2 == 0) = true := by simpa using v1
    rw [v4]
    change ((bookDo s.shards[i].book.list qi (witF qa)).2 == 0) = true at v1'
    change accAt (bookDo s.shards[i].book.list qi (witF qa)).1 qi = -1 at v3
    rw [v3] at eA
    simp only [rn, RO.dst, lk, drop, Nat.reduceBEq, Nat.reduceAdd, Nat.reduceLeDiff, ↓reduceIte, reduceCtorEq, Bool.and_self, Bool.and_true, Bool.true_and, Bool.and_false, Bool.false_and, Int.reduceLT, Int.reduceLE, Int.reduceGT, Int.reduceGE, Int.reduceBEq, Int.reduceBNe, Int.reduceEq, Int.reduceNe, Int.reduceNeg, l1, l2, l3, e1, e2, e3, eI, hxi, hld, e4, eC, hlen, g0, cA, cB, e5, hyi, st, eA, v1']
    exact ⟨_, _, _, rfl, og, ⟨y, _, rfl, rfl, w7⟩, fg⟩
  · have v1' : ((doBook s.shards[i].book.list ⟨qe, 3, qi, qa, qt⟩).2 == 0) = true := by simpa using v1
    rw [v6, Account.at_get v5]
    change ((bookDo s.shards[i].book.list qi (witF qa)).2 == 0) = true at v1'
    change accAt (bookDo s.shards[i].book.list qi (witF qa)).1 qi = (j : Int) at v4
    have g1 : (j : Int) ≥ 0 := by omega
    rw [v4] at eA
    have hx := u7.idx v5
    have hl := u7.load v5
    simp only [Account.enc] at hl
    simp only [rn, RO.dst, lk, drop, Nat.reduceBEq, Nat.reduceAdd, Nat.reduceLeDiff, ↓reduceIte, reduceCtorEq, Bool.and_self, Bool.and_true, Bool.true_and, Bool.and_false, Bool.false_and, Int.reduceLT, Int.reduceLE, Int.reduceGT, Int.reduceGE, Int.reduceBEq, Int.reduceBNe, Int.reduceEq, Int.reduceNe, Int.reduceNeg, l1, l2, l3, e1, e2, e3, eI, hxi, hld, e4, eC, hlen, g0, cA, cB, e5, hyi, st, eA, v1', g1, hx, hl]
    exact ⟨_, _, _, rfl, og, ⟨y, _, rfl, rfl, w7⟩, fg⟩
set_option maxHeartbeats 4000000 in
set_option maxRecDepth 8000 in
theorem sdo_op4 (k : KS F) (hf : h.floor ≤ h.next) (v : Store.RI h cs s fp) (qe qi qa qt : Int) (okq : (⟨qe, 4, qi, qa, qt⟩ : Request).Ok) (ok : s.Ok) (sm : s.Small) :
    SDoStoreAt F Z h cs s ⟨qe, 4, qi, qa, qt⟩ := by
  unfold SDoStoreAt
  obtain ⟨l1, l2, l3⟩ := Store.lenI v
  obtain ⟨cs1, h1, fr, e1, o1, v1, f1⟩ := l13Copy_c (Z := Z) k hf v sm
  have vh := Store.okI.on v o1
  have e2 := sStoreOk_run (Z := Z) k vh ok
  have e3 := l13Find_run (Z := Z) k.s13 vh qi
  have eI := fun (lo hi : Int) (h : Heap) => l01In_run (F := F) (Z := Z) k.s01 4 lo hi h
  simp only [inR] at eI
  obtain ⟨y, p, rfl, hp, w⟩ := v1
  subst hp
  rw [call_run F Z (k.s13.lk (g := 381) rfl) _ _ rfl]
  simp only [Request.enc]
  cases hg : s.good with
  | false =>
    rw [hg] at e2
    rw [dost_bad (by simp [hg])]
    simp only [rn, RO.dst, lk, drop, Nat.reduceBEq, Nat.reduceAdd, Nat.reduceLeDiff, ↓reduceIte, reduceCtorEq, Bool.and_self, Bool.and_true, Bool.true_and, Bool.and_false, Bool.false_and, Int.reduceLT, Int.reduceLE, Int.reduceGT, Int.reduceGE, Int.reduceBEq, Int.reduceBNe, Int.reduceEq, Int.reduceNe, Int.reduceNeg, l1, l2, l3, e1, e2]
    exact ⟨_, _, _, rfl, o1, ⟨y, _, rfl, rfl, w⟩, f1⟩
  | true =>
  rw [hg] at e2
  have hin : (s.good && inR (⟨qe, 4, qi, qa, qt⟩ : Request).op 0 8) = true := by rw [hg]; rfl
  obtain ⟨x, p, rfl, hp, wx⟩ := vh
  subst hp
  rcases wx.found (fun t => decide (t.lo ≤ qi) && decide (qi ≤ t.hi)) with q | ⟨i, q, hi, hpi, _⟩
  · change findId s.shards qi = -1 at q
    rw [dost_away hin q]
    rw [q] at e3
    simp only [rn, RO.dst, lk, drop, Nat.reduceBEq, Nat.reduceAdd, Nat.reduceLeDiff, ↓reduceIte, reduceCtorEq, Bool.and_self, Bool.and_true, Bool.true_and, Bool.and_false, Bool.false_and, Int.reduceLT, Int.reduceLE, Int.reduceGT, Int.reduceGE, Int.reduceBEq, Int.reduceBNe, Int.reduceEq, Int.reduceNe, Int.reduceNeg, l1, l2, l3, e1, e2, e3, eI]
    exact ⟨_, _, _, rfl, o1, ⟨y, _, rfl, rfl, w⟩, f1⟩
  change findId s.shards qi = (i : Int) at q
  rw [q] at e3
  rw [dost_at hin q, Shard.at_get hi]
  have g0 : ¬ (i : Int) < 0 := by omega
  have hxi := wx.idx hi
  have hyi := w.idx hi
  have okX := ok.shards _ (List.getElem_mem hi)
  have smX := sm.2 _ (List.getElem_mem hi)
  have smf : s.shards[i].finished.length ≤ 1048576 := smX.2
  have smb : s.shards[i].book.list.length ≤ 1048576 := smX.1
  have hgd : s.shards[i].good = true := by
    have := Store.fit_at hg hi
    simp only [Store.fits, Bool.and_eq_true, Shard.at_get hi] at this
    exact this.1
  have hso := Shard.good_sorted hgd
  have hbk : bookOk s.shards[i].book.list = true := by
    simp only [Bool.and_eq_true, Shard.good, Shard.head] at hgd
    exact hgd.1.2.2.2.1
  obtain ⟨r, fx, hld, hR0, _⟩ := wx.one hi
  obtain ⟨cs4, h4, ft, e4, o4, u4, f4⟩ := l13CopyShard_c (Z := Z) k.s10 k.s13 (o1.le hf) hR0 smX
  obtain ⟨xb, pb, xf, pf, rfl, rfl, wb, wf⟩ := hR0
  obtain ⟨b4, pb4, f4c, pf4, rfl, hq4, wb4, wf4⟩ := u4
  subst hq4
  obtain ⟨n4a, n4b, n4c⟩ := List.nodup_append.1 f4.nd
  have o04 := o1.trans o4
  have o4h := o04.le
  have w4 := w.on Shard.okI o4
  have lt4 := w4.lt Shard.okI
  have lt4f := wf4.lt (Fl.ok _)
  have eC := l13Has_run (F := F) (Z := Z) k.s13 wf4 ⟨qt, qi⟩
  simp only [Fin.enc] at eC
  have hlen := wf4.len
  cases cA : (s.shards[i].epoch != qe) with
  | true =>
    have cA' : (s.shards[i].epoch == qe) = false := by simpa using cA
    have hR : refuse s.shards[i] ⟨qe, 4, qi, qa, qt⟩ = 9 := by simp [refuse, inR, Request.ends, Request.fin, cA']
    rw [hR]
    simp only [show ((9 : Int) == 0) = false from rfl, cond_false]
    simp only [rn, RO.dst, lk, drop, Nat.reduceBEq, Nat.reduceAdd, Nat.reduceLeDiff, ↓reduceIte, reduceCtorEq, Bool.and_self, Bool.and_true, Bool.true_and, Bool.and_false, Bool.false_and, Int.reduceLT, Int.reduceLE, Int.reduceGT, Int.reduceGE, Int.reduceBEq, Int.reduceBNe, Int.reduceEq, Int.reduceNe, Int.reduceNeg, l1, l2, l3, e1, e2, e3, eI, hxi, hld, e4, eC, hlen, g0, cA]
    exact ⟨_, _, _, rfl, o04, ⟨y, _, rfl, rfl, w4⟩, f1⟩
  | false =>
  have cA' : (s.shards[i].epoch == qe) = true := by simpa using cA
  cases cB : (s.shards[i].state == 1) with
  | true =>
    have hR : refuse s.shards[i] ⟨qe, 4, qi, qa, qt⟩ = 10 := by simp [refuse, inR, Request.ends, Request.fin, cA', cB]
    rw [hR]
    simp only [show ((10 : Int) == 0) = false from rfl, cond_false]
    simp only [rn, RO.dst, lk, drop, Nat.reduceBEq, Nat.reduceAdd, Nat.reduceLeDiff, ↓reduceIte, reduceCtorEq, Bool.and_self, Bool.and_true, Bool.true_and, Bool.and_false, Bool.false_and, Int.reduceLT, Int.reduceLE, Int.reduceGT, Int.reduceGE, Int.reduceBEq, Int.reduceBNe, Int.reduceEq, Int.reduceNe, Int.reduceNeg, l1, l2, l3, e1, e2, e3, eI, hxi, hld, e4, eC, hlen, g0, cA, cB]
    exact ⟨_, _, _, rfl, o04, ⟨y, _, rfl, rfl, w4⟩, f1⟩
  | false =>
  by_cases cC : qt < 1
  · have hR : refuse s.shards[i] ⟨qe, 4, qi, qa, qt⟩ = 11 := by simp [refuse, inR, Request.ends, Request.fin, cA', cB, cC]
    rw [hR]
    simp only [show ((11 : Int) == 0) = false from rfl, cond_false]
    simp only [rn, RO.dst, lk, drop, Nat.reduceBEq, Nat.reduceAdd, Nat.reduceLeDiff, ↓reduceIte, reduceCtorEq, Bool.and_self, Bool.and_true, Bool.true_and, Bool.and_false, Bool.false_and, Int.reduceLT, Int.reduceLE, Int.reduceGT, Int.reduceGE, Int.reduceBEq, Int.reduceBNe, Int.reduceEq, Int.reduceNe, Int.reduceNeg, l1, l2, l3, e1, e2, e3, eI, hxi, hld, e4, eC, hlen, g0, cA, cB, cC]
    exact ⟨_, _, _, rfl, o04, ⟨y, _, rfl, rfl, w4⟩, f1⟩
  by_cases cD : (⟨qt, qi⟩ : Fin) ∈ s.shards[i].finished
  · have hR : refuse s.shards[i] ⟨qe, 4, qi, qa, qt⟩ = 12 := by simp [refuse, inR, Request.ends, Request.fin, cA', cB, cC, cD]
    rw [hR]
    simp only [show ((12 : Int) == 0) = false from rfl, cond_false]
    simp only [rn, RO.dst, lk, drop, Nat.reduceBEq, Nat.reduceAdd, Nat.reduceLeDiff, ↓reduceIte, reduceCtorEq, Bool.and_self, Bool.and_true, Bool.true_and, Bool.and_false, Bool.false_and, Int.reduceLT, Int.reduceLE, Int.reduceGT, Int.reduceGE, Int.reduceBEq, Int.reduceBNe, Int.reduceEq, Int.reduceNe, Int.reduceNeg, l1, l2, l3, e1, e2, e3, eI, hxi, hld, e4, eC, hlen, g0, cA, cB, cC, cD]
    exact ⟨_, _, _, rfl, o04, ⟨y, _, rfl, rfl, w4⟩, f1⟩
  have hR : refuse s.shards[i] ⟨qe, 4, qi, qa, qt⟩ = 0 := by simp [refuse, inR, Request.ends, Request.fin, cA', cB, cC, cD]
  rw [hR]
  simp only [beq_self_eq_true, cond_true]
  obtain ⟨yb, h5, fb, e5, o5, u5, f5⟩ := sLockDebit_c (Z := Z) k.s10 (o4h hf) wb4 qi qa qt okq.amount okX.book.list smb
  have ltb := u5.lt (Fl.ok _)
  have hA : doShard s.shards[i] ⟨qe, 4, qi, qa, qt⟩ = ⟨s.shards[i].lo, s.shards[i].hi, s.shards[i].state, s.shards[i].epoch, ⟨(doBook s.shards[i].book.list ⟨qe, 4, qi, qa, qt⟩).1⟩, s.shards[i].finished⟩ := by simp [doShard, Request.ends, Request.fin, cA', cB, cC, cD]
  obtain ⟨g, fq, st, og, fg, w7, u7⟩ := row_set (h := h) (o04.trans o5) hf (w4.on Shard.okI o5) f1 hi u5 (wf4.on (Fl.ok _) o5) (List.nodup_append.2 ⟨f5.nd, n4b, fun a ha b hb e => by subst e; have := f5.lo a ha; have := lt4f a hb; omega⟩) (fun id hid => by
    rcases List.mem_append.1 hid with h1 | h1
    · have := f5.lo id h1; have := o4.ext.1; omega
    · exact f4.lo id (List.mem_append_right _ h1)) (n := h1.next) (w.lt Shard.okI) o1.ext.1
  rw [hA]
  have eA := l10Find_run (F := F) (Z := Z) k.s10 u7 qi
  rcases val_cases (a := qi) (doBook_srt hbk ⟨qe, 4, qi, qa, qt⟩) with ⟨v1, v2⟩ | ⟨v1, v2, v3, v4⟩ | ⟨v1, j, v2, v3, v4, v5, v6⟩
  · have v1' : ((doBook s.shards[i].book.list ⟨qe, 4, qi, qa, qt⟩).2 == 0) = false := by simpa using v1
    rw [v2]
    change ((bookTx s.shards[i].book.list qi qt (lockDF qa qt)).2 == 0) = false at v1'
    simp only [rn, RO.dst, lk, drop, Nat.reduceBEq, Nat.reduceAdd, Nat.reduceLeDiff, ↓reduceIte, reduceCtorEq, Bool.and_self, Bool.and_true, Bool.true_and, Bool.and_false, Bool.false_and, Int.reduceLT, Int.reduceLE, Int.reduceGT, Int.reduceGE, Int.reduceBEq, Int.reduceBNe, Int.reduceEq, Int.reduceNe, Int.reduceNeg, l1, l2, l3, e1, e2, e3, eI, hxi, hld, e4, eC, hlen, g0, cA, cB, cC, cD, e5, hyi, st, eA, v1']
    exact ⟨_, _, _, rfl, og, ⟨y, _, rfl, rfl, w7⟩, fg⟩
  · have v1' : ((doBook s.shards[i].book.list ⟨qe, 4, qi, qa, qt⟩).2 == 0) = true := by simpa using v1
    rw [v4]
    change ((bookTx s.shards[i].book.list qi qt (lockDF qa qt)).2 == 0) = true at v1'
    change accAt (bookTx s.shards[i].book.list qi qt (lockDF qa qt)).1 qi = -1 at v3
    rw [v3] at eA
    simp only [rn, RO.dst, lk, drop, Nat.reduceBEq, Nat.reduceAdd, Nat.reduceLeDiff, ↓reduceIte, reduceCtorEq, Bool.and_self, Bool.and_true, Bool.true_and, Bool.and_false, Bool.false_and, Int.reduceLT, Int.reduceLE, Int.reduceGT, Int.reduceGE, Int.reduceBEq, Int.reduceBNe, Int.reduceEq, Int.reduceNe, Int.reduceNeg, l1, l2, l3, e1, e2, e3, eI, hxi, hld, e4, eC, hlen, g0, cA, cB, cC, cD, e5, hyi, st, eA, v1']
    exact ⟨_, _, _, rfl, og, ⟨y, _, rfl, rfl, w7⟩, fg⟩
  · have v1' : ((doBook s.shards[i].book.list ⟨qe, 4, qi, qa, qt⟩).2 == 0) = true := by simpa using v1
    rw [v6, Account.at_get v5]
    change ((bookTx s.shards[i].book.list qi qt (lockDF qa qt)).2 == 0) = true at v1'
    change accAt (bookTx s.shards[i].book.list qi qt (lockDF qa qt)).1 qi = (j : Int) at v4
    have g1 : (j : Int) ≥ 0 := by omega
    rw [v4] at eA
    have hx := u7.idx v5
    have hl := u7.load v5
    simp only [Account.enc] at hl
    simp only [rn, RO.dst, lk, drop, Nat.reduceBEq, Nat.reduceAdd, Nat.reduceLeDiff, ↓reduceIte, reduceCtorEq, Bool.and_self, Bool.and_true, Bool.true_and, Bool.and_false, Bool.false_and, Int.reduceLT, Int.reduceLE, Int.reduceGT, Int.reduceGE, Int.reduceBEq, Int.reduceBNe, Int.reduceEq, Int.reduceNe, Int.reduceNeg, l1, l2, l3, e1, e2, e3, eI, hxi, hld, e4, eC, hlen, g0, cA, cB, cC, cD, e5, hyi, st, eA, v1', g1, hx, hl]
    exact ⟨_, _, _, rfl, og, ⟨y, _, rfl, rfl, w7⟩, fg⟩
set_option maxHeartbeats 4000000 in
set_option maxRecDepth 8000 in
theorem sdo_op5 (k : KS F) (hf : h.floor ≤ h.next) (v : Store.RI h cs s fp) (qe qi qa qt : Int) (okq : (⟨qe, 5, qi, qa, qt⟩ : Request).Ok) (ok : s.Ok) (sm : s.Small) :
    SDoStoreAt F Z h cs s ⟨qe, 5, qi, qa, qt⟩ := by
  unfold SDoStoreAt
  obtain ⟨l1, l2, l3⟩ := Store.lenI v
  obtain ⟨cs1, h1, fr, e1, o1, v1, f1⟩ := l13Copy_c (Z := Z) k hf v sm
  have vh := Store.okI.on v o1
  have e2 := sStoreOk_run (Z := Z) k vh ok
  have e3 := l13Find_run (Z := Z) k.s13 vh qi
  have eI := fun (lo hi : Int) (h : Heap) => l01In_run (F := F) (Z := Z) k.s01 5 lo hi h
  simp only [inR] at eI
  obtain ⟨y, p, rfl, hp, w⟩ := v1
  subst hp
  rw [call_run F Z (k.s13.lk (g := 381) rfl) _ _ rfl]
  simp only [Request.enc]
  cases hg : s.good with
  | false =>
    rw [hg] at e2
    rw [dost_bad (by simp [hg])]
    simp only [rn, RO.dst, lk, drop, Nat.reduceBEq, Nat.reduceAdd, Nat.reduceLeDiff, ↓reduceIte, reduceCtorEq, Bool.and_self, Bool.and_true, Bool.true_and, Bool.and_false, Bool.false_and, Int.reduceLT, Int.reduceLE, Int.reduceGT, Int.reduceGE, Int.reduceBEq, Int.reduceBNe, Int.reduceEq, Int.reduceNe, Int.reduceNeg, l1, l2, l3, e1, e2]
    exact ⟨_, _, _, rfl, o1, ⟨y, _, rfl, rfl, w⟩, f1⟩
  | true =>
  rw [hg] at e2
  have hin : (s.good && inR (⟨qe, 5, qi, qa, qt⟩ : Request).op 0 8) = true := by rw [hg]; rfl
  obtain ⟨x, p, rfl, hp, wx⟩ := vh
  subst hp
  rcases wx.found (fun t => decide (t.lo ≤ qi) && decide (qi ≤ t.hi)) with q | ⟨i, q, hi, hpi, _⟩
  · change findId s.shards qi = -1 at q
    rw [dost_away hin q]
    rw [q] at e3
    simp only [rn, RO.dst, lk, drop, Nat.reduceBEq, Nat.reduceAdd, Nat.reduceLeDiff, ↓reduceIte, reduceCtorEq, Bool.and_self, Bool.and_true, Bool.true_and, Bool.and_false, Bool.false_and, Int.reduceLT, Int.reduceLE, Int.reduceGT, Int.reduceGE, Int.reduceBEq, Int.reduceBNe, Int.reduceEq, Int.reduceNe, Int.reduceNeg, l1, l2, l3, e1, e2, e3, eI]
    exact ⟨_, _, _, rfl, o1, ⟨y, _, rfl, rfl, w⟩, f1⟩
  change findId s.shards qi = (i : Int) at q
  rw [q] at e3
  rw [dost_at hin q, Shard.at_get hi]
  have g0 : ¬ (i : Int) < 0 := by omega
  have hxi := wx.idx hi
  have hyi := w.idx hi
  have okX := ok.shards _ (List.getElem_mem hi)
  have smX := sm.2 _ (List.getElem_mem hi)
  have smf : s.shards[i].finished.length ≤ 1048576 := smX.2
  have smb : s.shards[i].book.list.length ≤ 1048576 := smX.1
  have hgd : s.shards[i].good = true := by
    have := Store.fit_at hg hi
    simp only [Store.fits, Bool.and_eq_true, Shard.at_get hi] at this
    exact this.1
  have hso := Shard.good_sorted hgd
  have hbk : bookOk s.shards[i].book.list = true := by
    simp only [Bool.and_eq_true, Shard.good, Shard.head] at hgd
    exact hgd.1.2.2.2.1
  obtain ⟨r, fx, hld, hR0, _⟩ := wx.one hi
  obtain ⟨cs4, h4, ft, e4, o4, u4, f4⟩ := l13CopyShard_c (Z := Z) k.s10 k.s13 (o1.le hf) hR0 smX
  obtain ⟨xb, pb, xf, pf, rfl, rfl, wb, wf⟩ := hR0
  obtain ⟨b4, pb4, f4c, pf4, rfl, hq4, wb4, wf4⟩ := u4
  subst hq4
  obtain ⟨n4a, n4b, n4c⟩ := List.nodup_append.1 f4.nd
  have o04 := o1.trans o4
  have o4h := o04.le
  have w4 := w.on Shard.okI o4
  have lt4 := w4.lt Shard.okI
  have lt4f := wf4.lt (Fl.ok _)
  have eC := l13Has_run (F := F) (Z := Z) k.s13 wf4 ⟨qt, qi⟩
  simp only [Fin.enc] at eC
  have hlen := wf4.len
  cases cA : (s.shards[i].epoch != qe) with
  | true =>
    have cA' : (s.shards[i].epoch == qe) = false := by simpa using cA
    have hR : refuse s.shards[i] ⟨qe, 5, qi, qa, qt⟩ = 9 := by simp [refuse, inR, Request.ends, Request.fin, cA']
    rw [hR]
    simp only [show ((9 : Int) == 0) = false from rfl, cond_false]
    simp only [rn, RO.dst, lk, drop, Nat.reduceBEq, Nat.reduceAdd, Nat.reduceLeDiff, ↓reduceIte, reduceCtorEq, Bool.and_self, Bool.and_true, Bool.true_and, Bool.and_false, Bool.false_and, Int.reduceLT, Int.reduceLE, Int.reduceGT, Int.reduceGE, Int.reduceBEq, Int.reduceBNe, Int.reduceEq, Int.reduceNe, Int.reduceNeg, l1, l2, l3, e1, e2, e3, eI, hxi, hld, e4, eC, hlen, g0, cA]
    exact ⟨_, _, _, rfl, o04, ⟨y, _, rfl, rfl, w4⟩, f1⟩
  | false =>
  have cA' : (s.shards[i].epoch == qe) = true := by simpa using cA
  cases cB : (s.shards[i].state == 1) with
  | true =>
    have hR : refuse s.shards[i] ⟨qe, 5, qi, qa, qt⟩ = 10 := by simp [refuse, inR, Request.ends, Request.fin, cA', cB]
    rw [hR]
    simp only [show ((10 : Int) == 0) = false from rfl, cond_false]
    simp only [rn, RO.dst, lk, drop, Nat.reduceBEq, Nat.reduceAdd, Nat.reduceLeDiff, ↓reduceIte, reduceCtorEq, Bool.and_self, Bool.and_true, Bool.true_and, Bool.and_false, Bool.false_and, Int.reduceLT, Int.reduceLE, Int.reduceGT, Int.reduceGE, Int.reduceBEq, Int.reduceBNe, Int.reduceEq, Int.reduceNe, Int.reduceNeg, l1, l2, l3, e1, e2, e3, eI, hxi, hld, e4, eC, hlen, g0, cA, cB]
    exact ⟨_, _, _, rfl, o04, ⟨y, _, rfl, rfl, w4⟩, f1⟩
  | false =>
  by_cases cC : qt < 1
  · have hR : refuse s.shards[i] ⟨qe, 5, qi, qa, qt⟩ = 11 := by simp [refuse, inR, Request.ends, Request.fin, cA', cB, cC]
    rw [hR]
    simp only [show ((11 : Int) == 0) = false from rfl, cond_false]
    simp only [rn, RO.dst, lk, drop, Nat.reduceBEq, Nat.reduceAdd, Nat.reduceLeDiff, ↓reduceIte, reduceCtorEq, Bool.and_self, Bool.and_true, Bool.true_and, Bool.and_false, Bool.false_and, Int.reduceLT, Int.reduceLE, Int.reduceGT, Int.reduceGE, Int.reduceBEq, Int.reduceBNe, Int.reduceEq, Int.reduceNe, Int.reduceNeg, l1, l2, l3, e1, e2, e3, eI, hxi, hld, e4, eC, hlen, g0, cA, cB, cC]
    exact ⟨_, _, _, rfl, o04, ⟨y, _, rfl, rfl, w4⟩, f1⟩
  by_cases cD : (⟨qt, qi⟩ : Fin) ∈ s.shards[i].finished
  · have hR : refuse s.shards[i] ⟨qe, 5, qi, qa, qt⟩ = 12 := by simp [refuse, inR, Request.ends, Request.fin, cA', cB, cC, cD]
    rw [hR]
    simp only [show ((12 : Int) == 0) = false from rfl, cond_false]
    simp only [rn, RO.dst, lk, drop, Nat.reduceBEq, Nat.reduceAdd, Nat.reduceLeDiff, ↓reduceIte, reduceCtorEq, Bool.and_self, Bool.and_true, Bool.true_and, Bool.and_false, Bool.false_and, Int.reduceLT, Int.reduceLE, Int.reduceGT, Int.reduceGE, Int.reduceBEq, Int.reduceBNe, Int.reduceEq, Int.reduceNe, Int.reduceNeg, l1, l2, l3, e1, e2, e3, eI, hxi, hld, e4, eC, hlen, g0, cA, cB, cC, cD]
    exact ⟨_, _, _, rfl, o04, ⟨y, _, rfl, rfl, w4⟩, f1⟩
  have hR : refuse s.shards[i] ⟨qe, 5, qi, qa, qt⟩ = 0 := by simp [refuse, inR, Request.ends, Request.fin, cA', cB, cC, cD]
  rw [hR]
  simp only [beq_self_eq_true, cond_true]
  obtain ⟨yb, h5, fb, e5, o5, u5, f5⟩ := sLockCredit_c (Z := Z) k.s10 (o4h hf) wb4 qi qa qt okq.amount okX.book.list smb
  have ltb := u5.lt (Fl.ok _)
  have hA : doShard s.shards[i] ⟨qe, 5, qi, qa, qt⟩ = ⟨s.shards[i].lo, s.shards[i].hi, s.shards[i].state, s.shards[i].epoch, ⟨(doBook s.shards[i].book.list ⟨qe, 5, qi, qa, qt⟩).1⟩, s.shards[i].finished⟩ := by simp [doShard, Request.ends, Request.fin, cA', cB, cC, cD]
  obtain ⟨g, fq, st, og, fg, w7, u7⟩ := row_set (h := h) (o04.trans o5) hf (w4.on Shard.okI o5) f1 hi u5 (wf4.on (Fl.ok _) o5) (List.nodup_append.2 ⟨f5.nd, n4b, fun a ha b hb e => by subst e; have := f5.lo a ha; have := lt4f a hb; omega⟩) (fun id hid => by
    rcases List.mem_append.1 hid with h1 | h1
    · have := f5.lo id h1; have := o4.ext.1; omega
    · exact f4.lo id (List.mem_append_right _ h1)) (n := h1.next) (w.lt Shard.okI) o1.ext.1
  rw [hA]
  have eA := l10Find_run (F := F) (Z := Z) k.s10 u7 qi
  rcases val_cases (a := qi) (doBook_srt hbk ⟨qe, 5, qi, qa, qt⟩) with ⟨v1, v2⟩ | ⟨v1, v2, v3, v4⟩ | ⟨v1, j, v2, v3, v4, v5, v6⟩
  · have v1' : ((doBook s.shards[i].book.list ⟨qe, 5, qi, qa, qt⟩).2 == 0) = false := by simpa using v1
    rw [v2]
    change ((bookTx s.shards[i].book.list qi qt (lockCF qa qt)).2 == 0) = false at v1'
    simp only [rn, RO.dst, lk, drop, Nat.reduceBEq, Nat.reduceAdd, Nat.reduceLeDiff, ↓reduceIte, reduceCtorEq, Bool.and_self, Bool.and_true, Bool.true_and, Bool.and_false, Bool.false_and, Int.reduceLT, Int.reduceLE, Int.reduceGT, Int.reduceGE, Int.reduceBEq, Int.reduceBNe, Int.reduceEq, Int.reduceNe, Int.reduceNeg, l1, l2, l3, e1, e2, e3, eI, hxi, hld, e4, eC, hlen, g0, cA, cB, cC, cD, e5, hyi, st, eA, v1']
    exact ⟨_, _, _, rfl, og, ⟨y, _, rfl, rfl, w7⟩, fg⟩
  · have v1' : ((doBook s.shards[i].book.list ⟨qe, 5, qi, qa, qt⟩).2 == 0) = true := by simpa using v1
    rw [v4]
    change ((bookTx s.shards[i].book.list qi qt (lockCF qa qt)).2 == 0) = true at v1'
    change accAt (bookTx s.shards[i].book.list qi qt (lockCF qa qt)).1 qi = -1 at v3
    rw [v3] at eA
    simp only [rn, RO.dst, lk, drop, Nat.reduceBEq, Nat.reduceAdd, Nat.reduceLeDiff, ↓reduceIte, reduceCtorEq, Bool.and_self, Bool.and_true, Bool.true_and, Bool.and_false, Bool.false_and, Int.reduceLT, Int.reduceLE, Int.reduceGT, Int.reduceGE, Int.reduceBEq, Int.reduceBNe, Int.reduceEq, Int.reduceNe, Int.reduceNeg, l1, l2, l3, e1, e2, e3, eI, hxi, hld, e4, eC, hlen, g0, cA, cB, cC, cD, e5, hyi, st, eA, v1']
    exact ⟨_, _, _, rfl, og, ⟨y, _, rfl, rfl, w7⟩, fg⟩
  · have v1' : ((doBook s.shards[i].book.list ⟨qe, 5, qi, qa, qt⟩).2 == 0) = true := by simpa using v1
    rw [v6, Account.at_get v5]
    change ((bookTx s.shards[i].book.list qi qt (lockCF qa qt)).2 == 0) = true at v1'
    change accAt (bookTx s.shards[i].book.list qi qt (lockCF qa qt)).1 qi = (j : Int) at v4
    have g1 : (j : Int) ≥ 0 := by omega
    rw [v4] at eA
    have hx := u7.idx v5
    have hl := u7.load v5
    simp only [Account.enc] at hl
    simp only [rn, RO.dst, lk, drop, Nat.reduceBEq, Nat.reduceAdd, Nat.reduceLeDiff, ↓reduceIte, reduceCtorEq, Bool.and_self, Bool.and_true, Bool.true_and, Bool.and_false, Bool.false_and, Int.reduceLT, Int.reduceLE, Int.reduceGT, Int.reduceGE, Int.reduceBEq, Int.reduceBNe, Int.reduceEq, Int.reduceNe, Int.reduceNeg, l1, l2, l3, e1, e2, e3, eI, hxi, hld, e4, eC, hlen, g0, cA, cB, cC, cD, e5, hyi, st, eA, v1', g1, hx, hl]
    exact ⟨_, _, _, rfl, og, ⟨y, _, rfl, rfl, w7⟩, fg⟩
end
end Go.Proofs.YtahkgghifaodoaaGreat.A
namespace Go.Proofs.YtahkgghifaodoaaGreat.A
open Go
set_option linter.unusedSimpArgs false
set_option linter.unusedVariables false
section
variable {F : Nat → Option RF} {Z : CallF} {h : Heap} {cs : List Cell} {fp : List Nat} {s : Store}
set_option maxHeartbeats 4000000 in
set_option maxRecDepth 8000 in
theorem sdo_op6 (k : KS F) (hf : h.floor ≤ h.next) (v : Store.RI h cs s fp) (qe qi qa qt : Int) (okq : (⟨qe, 6, qi, qa, qt⟩ : Request).Ok) (ok : s.Ok) (sm : s.Small) :
    SDoStoreAt F Z h cs s ⟨qe, 6, qi, qa, qt⟩ := by
  unfold SDoStoreAt
  obtain ⟨l1, l2, l3⟩ := Store.lenI v
  obtain ⟨cs1, h1, fr, e1, o1, v1, f1⟩ := l13Copy_c (Z := Z) k hf v sm
  have vh := Store.okI.on v o1
  have e2 := sStoreOk_run (Z := Z) k vh ok
  have e3 := l13Find_run (Z := Z) k.s13 vh qi
  have eI := fun (lo hi : Int) (h : Heap) => l01In_run (F := F) (Z := Z) k.s01 6 lo hi h
  simp only [inR] at eI
  obtain ⟨y, p, rfl, hp, w⟩ := v1
  subst hp
  rw [call_run F Z (k.s13.lk (g := 381) rfl) _ _ rfl]
  simp only [Request.enc]
  cases hg : s.good with
  | false =>
    rw [hg] at e2
    rw [dost_bad (by simp [hg])]
    simp only [rn, RO.dst, lk, drop, Nat.reduceBEq, Nat.reduceAdd, Nat.reduceLeDiff, ↓reduceIte, reduceCtorEq, Bool.and_self, Bool.and_true, Bool.true_and, Bool.and_false, Bool.false_and, Int.reduceLT, Int.reduceLE, Int.reduceGT, Int.reduceGE, Int.reduceBEq, Int.reduceBNe, Int.reduceEq, Int.reduceNe, Int.reduceNeg, l1, l2, l3, e1, e2]
    exact ⟨_, _, _, rfl, o1, ⟨y, _, rfl, rfl, w⟩, f1⟩
  | true =>
  rw [hg] at e2
  have hin : (s.good && inR (⟨qe, 6, qi, qa, qt⟩ : Request).op 0 8) = true := by rw [hg]; rfl
  obtain ⟨x, p, rfl, hp, wx⟩ := vh
  subst hp
  rcases wx.found (fun t => decide (t.lo ≤ qi) && decide (qi ≤ t.hi)) with q | ⟨i, q, hi, hpi, _⟩
  · change findId s.shards qi = -1 at q
    rw [dost_away hin q]
    rw [q] at e3
    simp only [rn, RO.dst, lk, drop, Nat.reduceBEq, Nat.reduceAdd, Nat.reduceLeDiff, ↓reduceIte, reduceCtorEq, Bool.and_self, Bool.and_true, Bool.true_and, Bool.and_false, Bool.false_and, Int.reduceLT, Int.reduceLE, Int.reduceGT, Int.reduceGE, Int.reduceBEq, Int.reduceBNe, Int.reduceEq, Int.reduceNe, Int.reduceNeg, l1, l2, l3, e1, e2, e3, eI]
    exact ⟨_, _, _, rfl, o1, ⟨y, _, rfl, rfl, w⟩, f1⟩
  change findId s.shards qi = (i : Int) at q
  rw [q] at e3
  rw [dost_at hin q, Shard.at_get hi]
  have g0 : ¬ (i : Int) < 0 := by omega
  have hxi := wx.idx hi
  have hyi := w.idx hi
  have okX := ok.shards _ (List.getElem_mem hi)
  have smX := sm.2 _ (List.getElem_mem hi)
  have smf : s.shards[i].finished.length ≤ 1048576 := smX.2
  have smb : s.shards[i].book.list.length ≤ 1048576 := smX.1
  have hgd : s.shards[i].good = true := by
    have := Store.fit_at hg hi
    simp only [Store.fits, Bool.and_eq_true, Shard.at_get hi] at this
    exact this.1
  have hso := Shard.good_sorted hgd
  have hbk : bookOk s.shards[i].book.list = true := by
    simp only [Bool.and_eq_true, Shard.good, Shard.head] at hgd
    exact hgd.1.2.2.2.1
  obtain ⟨r, fx, hld, hR0, _⟩ := wx.one hi
  obtain ⟨cs4, h4, ft, e4, o4, u4, f4⟩ := l13CopyShard_c (Z := Z) k.s10 k.s13 (o1.le hf) hR0 smX
  obtain ⟨xb, pb, xf, pf, rfl, rfl, wb, wf⟩ := hR0
  obtain ⟨b4, pb4, f4c, pf4, rfl, hq4, wb4, wf4⟩ := u4
  subst hq4
  obtain ⟨n4a, n4b, n4c⟩ := List.nodup_append.1 f4.nd
  have o04 := o1.trans o4
  have o4h := o04.le
  have w4 := w.on Shard.okI o4
  have lt4 := w4.lt Shard.okI
  have lt4f := wf4.lt (Fl.ok _)
  have eC := l13Has_run (F := F) (Z := Z) k.s13 wf4 ⟨qt, qi⟩
  simp only [Fin.enc] at eC
  have hlen := wf4.len
  cases cA : (s.shards[i].epoch != qe) with
  | true =>
    have cA' : (s.shards[i].epoch == qe) = false := by simpa using cA
    have hR : refuse s.shards[i] ⟨qe, 6, qi, qa, qt⟩ = 9 := by simp [refuse, inR, Request.ends, Request.fin, cA']
    rw [hR]
    simp only [show ((9 : Int) == 0) = false from rfl, cond_false]
    simp only [rn, RO.dst, lk, drop, Nat.reduceBEq, Nat.reduceAdd, Nat.reduceLeDiff, ↓reduceIte, reduceCtorEq, Bool.and_self, Bool.and_true, Bool.true_and, Bool.and_false, Bool.false_and, Int.reduceLT, Int.reduceLE, Int.reduceGT, Int.reduceGE, Int.reduceBEq, Int.reduceBNe, Int.reduceEq, Int.reduceNe, Int.reduceNeg, l1, l2, l3, e1, e2, e3, eI, hxi, hld, e4, eC, hlen, g0, cA]
    exact ⟨_, _, _, rfl, o04, ⟨y, _, rfl, rfl, w4⟩, f1⟩
  | false =>
  have cA' : (s.shards[i].epoch == qe) = true := by simpa using cA
  cases cB : (s.shards[i].state == 1) with
  | true =>
    have hR : refuse s.shards[i] ⟨qe, 6, qi, qa, qt⟩ = 10 := by simp [refuse, inR, Request.ends, Request.fin, cA', cB]
    rw [hR]
    simp only [show ((10 : Int) == 0) = false from rfl, cond_false]
    simp only [rn, RO.dst, lk, drop, Nat.reduceBEq, Nat.reduceAdd, Nat.reduceLeDiff, ↓reduceIte, reduceCtorEq, Bool.and_self, Bool.and_true, Bool.true_and, Bool.and_false, Bool.false_and, Int.reduceLT, Int.reduceLE, Int.reduceGT, Int.reduceGE, Int.reduceBEq, Int.reduceBNe, Int.reduceEq, Int.reduceNe, Int.reduceNeg, l1, l2, l3, e1, e2, e3, eI, hxi, hld, e4, eC, hlen, g0, cA, cB]
    exact ⟨_, _, _, rfl, o04, ⟨y, _, rfl, rfl, w4⟩, f1⟩
  | false =>
  by_cases cC : qt < 1
  · have hR : refuse s.shards[i] ⟨qe, 6, qi, qa, qt⟩ = 11 := by simp [refuse, inR, Request.ends, Request.fin, cA', cB, cC]
    rw [hR]
    simp only [show ((11 : Int) == 0) = false from rfl, cond_false]
    simp only [rn, RO.dst, lk, drop, Nat.reduceBEq, Nat.reduceAdd, Nat.reduceLeDiff, ↓reduceIte, reduceCtorEq, Bool.and_self, Bool.and_true, Bool.true_and, Bool.and_false, Bool.false_and, Int.reduceLT, Int.reduceLE, Int.reduceGT, Int.reduceGE, Int.reduceBEq, Int.reduceBNe, Int.reduceEq, Int.reduceNe, Int.reduceNeg, l1, l2, l3, e1, e2, e3, eI, hxi, hld, e4, eC, hlen, g0, cA, cB, cC]
    exact ⟨_, _, _, rfl, o04, ⟨y, _, rfl, rfl, w4⟩, f1⟩
  by_cases cD : (⟨qt, qi⟩ : Fin) ∈ s.shards[i].finished
  · have hR : refuse s.shards[i] ⟨qe, 6, qi, qa, qt⟩ = 0 := by simp [refuse, inR, Request.ends, Request.fin, cA', cB, cC, cD]
    rw [hR]
    simp only [beq_self_eq_true, cond_true]
    obtain ⟨yb, h5, fb, e5, o5, u5, f5⟩ := sSettleHold_c (Z := Z) k.s10 (o4h hf) wb4 qi qt okX.book.list smb
    have ltb := u5.lt (Fl.ok _)
    have hA : doShard s.shards[i] ⟨qe, 6, qi, qa, qt⟩ = ⟨s.shards[i].lo, s.shards[i].hi, s.shards[i].state, s.shards[i].epoch, ⟨(doBook s.shards[i].book.list ⟨qe, 6, qi, qa, qt⟩).1⟩, addFin s.shards[i].finished ⟨qt, qi⟩⟩ := by
      rw [addFin_in cD]
      simp [doShard, Request.ends, Request.fin, cA', cB, cC, cD]
    obtain ⟨zf, h6, fz, e6, o6, u6, f6⟩ := l13AddFin_c (Z := Z) k.s13 (o5.le (o4h hf)) (wf4.on (Fl.ok _) o5) smf ⟨qt, qi⟩
    simp only [Fin.enc] at e6
    obtain ⟨g, fq, st, og, fg, w7, u7⟩ := row_set (h := h) ((o04.trans o5).trans o6) hf ((w4.on Shard.okI o5).on Shard.okI o6) f1 hi (u5.on (Fl.ok _) o6) u6 (List.nodup_append.2 ⟨f5.nd, f6.nd, fun a ha b hb e => by subst e; have := f6.lo a hb; have := ltb a ha; omega⟩) (fun id hid => by
      have := o5.ext.1
      rcases List.mem_append.1 hid with h1 | h1
      · have := f5.lo id h1; omega
      · have := f6.lo id h1; omega) (n := h4.next) lt4
      (Nat.le_trans o1.ext.1 o4.ext.1)
    rw [hA]
    have eA := l10Find_run (F := F) (Z := Z) k.s10 u7 qi
    rcases val_cases (a := qi) (doBook_srt hbk ⟨qe, 6, qi, qa, qt⟩) with ⟨v1, v2⟩ | ⟨v1, v2, v3, v4⟩ | ⟨v1, j, v2, v3, v4, v5, v6⟩
    · have v1' : ((doBook s.shards[i].book.list ⟨qe, 6, qi, qa, qt⟩).2 == 0) = false := by simpa using v1
      rw [v2]
      change ((bookTx s.shards[i].book.list qi qt (settleF qi qt)).2 == 0) = false at v1'
      simp only [rn, RO.dst, lk, drop, Nat.reduceBEq, Nat.reduceAdd, Nat.reduceLeDiff, ↓reduceIte, reduceCtorEq, Bool.and_self, Bool.and_true, Bool.true_and, Bool.and_false, Bool.false_and, Int.reduceLT, Int.reduceLE, Int.reduceGT, Int.reduceGE, Int.reduceBEq, Int.reduceBNe, Int.reduceEq, Int.reduceNe, Int.reduceNeg, l1, l2, l3, e1, e2, e3, eI, hxi, hld, e4, eC, hlen, g0, cA, cB, cC, cD, e5, e6, hyi, st, eA, v1']
      exact ⟨_, _, _, rfl, og, ⟨y, _, rfl, rfl, w7⟩, fg⟩
    · have v1' : ((doBook s.shards[i].book.list ⟨qe, 6, qi, qa, qt⟩).2 == 0) = true := by simpa using v1
      rw [v4]
      change ((bookTx s.shards[i].book.list qi qt (settleF qi qt)).2 == 0) = true at v1'
      change accAt (bookTx s.shards[i].book.list qi qt (settleF qi qt)).1 qi = -1 at v3
      rw [v3] at eA
      simp only [rn, RO.dst, lk, drop, Nat.reduceBEq, Nat.reduceAdd, Nat.reduceLeDiff, ↓reduceIte, reduceCtorEq, Bool.and_self, Bool.and_true, Bool.true_and, Bool.and_false, Bool.false_and, Int.reduceLT, Int.reduceLE, Int.reduceGT, Int.reduceGE, Int.reduceBEq, Int.reduceBNe, Int.reduceEq, Int.reduceNe, Int.reduceNeg, l1, l2, l3, e1, e2, e3, eI, hxi, hld, e4, eC, hlen, g0, cA, cB, cC, cD, e5, e6, hyi, st, eA, v1']
      exact ⟨_, _, _, rfl, og, ⟨y, _, rfl, rfl, w7⟩, fg⟩
    · have v1' : ((doBook s.shards[i].book.list ⟨qe, 6, qi, qa, qt⟩).2 == 0) = true := by simpa using v1
      rw [v6, Account.at_get v5]
      change ((bookTx s.shards[i].book.list qi qt (settleF qi qt)).2 == 0) = true at v1'
      change accAt (bookTx s.shards[i].book.list qi qt (settleF qi qt)).1 qi = (j : Int) at v4
      have g1 : (j : Int) ≥ 0 := by omega
      rw [v4] at eA
      have hx := u7.idx v5
      have hl := u7.load v5
      simp only [Account.enc] at hl
      simp only [rn, RO.dst, lk, drop, Nat.reduceBEq, Nat.reduceAdd, Nat.reduceLeDiff, ↓reduceIte, reduceCtorEq, Bool.and_self, Bool.and_true, Bool.true_and, Bool.and_false, Bool.false_and, Int.reduceLT, Int.reduceLE, Int.reduceGT, Int.reduceGE, Int.reduceBEq, Int.reduceBNe, Int.reduceEq, Int.reduceNe, Int.reduceNeg, l1, l2, l3, e1, e2, e3, eI, hxi, hld, e4, eC, hlen, g0, cA, cB, cC, cD, e5, e6, hyi, st, eA, v1', g1, hx, hl]
      exact ⟨_, _, _, rfl, og, ⟨y, _, rfl, rfl, w7⟩, fg⟩
  cases cE : ((s.shards[i].finished.length : Int) == 60) with
  | true =>
    have hR : refuse s.shards[i] ⟨qe, 6, qi, qa, qt⟩ = 13 := by simp [refuse, inR, Request.ends, Request.fin, cA', cB, cC, cD, cE]
    rw [hR]
    simp only [show ((13 : Int) == 0) = false from rfl, cond_false]
    simp only [rn, RO.dst, lk, drop, Nat.reduceBEq, Nat.reduceAdd, Nat.reduceLeDiff, ↓reduceIte, reduceCtorEq, Bool.and_self, Bool.and_true, Bool.true_and, Bool.and_false, Bool.false_and, Int.reduceLT, Int.reduceLE, Int.reduceGT, Int.reduceGE, Int.reduceBEq, Int.reduceBNe, Int.reduceEq, Int.reduceNe, Int.reduceNeg, l1, l2, l3, e1, e2, e3, eI, hxi, hld, e4, eC, hlen, g0, cA, cB, cC, cD, cE]
    exact ⟨_, _, _, rfl, o04, ⟨y, _, rfl, rfl, w4⟩, f1⟩
  | false =>
  have hR : refuse s.shards[i] ⟨qe, 6, qi, qa, qt⟩ = 0 := by simp [refuse, inR, Request.ends, Request.fin, cA', cB, cC, cD, cE]
  rw [hR]
  simp only [beq_self_eq_true, cond_true]
  obtain ⟨yb, h5, fb, e5, o5, u5, f5⟩ := sSettleHold_c (Z := Z) k.s10 (o4h hf) wb4 qi qt okX.book.list smb
  have ltb := u5.lt (Fl.ok _)
  have hA : doShard s.shards[i] ⟨qe, 6, qi, qa, qt⟩ = ⟨s.shards[i].lo, s.shards[i].hi, s.shards[i].state, s.shards[i].epoch, ⟨(doBook s.shards[i].book.list ⟨qe, 6, qi, qa, qt⟩).1⟩, addFin s.shards[i].finished ⟨qt, qi⟩⟩ := by
    rw [addFin_sort hso cD]
    simp [doShard, Request.ends, Request.fin, cA', cB, cC, cD, cE]
  obtain ⟨zf, h6, fz, e6, o6, u6, f6⟩ := l13AddFin_c (Z := Z) k.s13 (o5.le (o4h hf)) (wf4.on (Fl.ok _) o5) smf ⟨qt, qi⟩
  simp only [Fin.enc] at e6
  obtain ⟨g, fq, st, og, fg, w7, u7⟩ := row_set (h := h) ((o04.trans o5).trans o6) hf ((w4.on Shard.okI o5).on Shard.okI o6) f1 hi (u5.on (Fl.ok _) o6) u6 (List.nodup_append.2 ⟨f5.nd, f6.nd, fun a ha b hb e => by subst e; have := f6.lo a hb; have := ltb a ha; omega⟩) (fun id hid => by
    have := o5.ext.1
    rcases List.mem_append.1 hid with h1 | h1
    · have := f5.lo id h1; omega
    · have := f6.lo id h1; omega) (n := h4.next) lt4
    (Nat.le_trans o1.ext.1 o4.ext.1)
  rw [hA]
  have eA := l10Find_run (F := F) (Z := Z) k.s10 u7 qi
  rcases val_cases (a := qi) (doBook_srt hbk ⟨qe, 6, qi, qa, qt⟩) with ⟨v1, v2⟩ | ⟨v1, v2, v3, v4⟩ | ⟨v1, j, v2, v3, v4, v5, v6⟩
  · have v1' : ((doBook s.shards[i].book.list ⟨qe, 6, qi, qa, qt⟩).2 == 0) = false := by simpa using v1
    rw [v2]
    change ((bookTx s.shards[i].book.list qi qt (settleF qi qt)).2 == 0) = false at v1'
    simp only [rn, RO.dst, lk, drop, Nat.reduceBEq, Nat.reduceAdd, Nat.reduceLeDiff, ↓reduceIte, reduceCtorEq, Bool.and_self, Bool.and_true, Bool.true_and, Bool.and_false, Bool.false_and, Int.reduceLT, Int.reduceLE, Int.reduceGT, Int.reduceGE, Int.reduceBEq, Int.reduceBNe, Int.reduceEq, Int.reduceNe, Int.reduceNeg, l1, l2, l3, e1, e2, e3, eI, hxi, hld, e4, eC, hlen, g0, cA, cB, cC, cD, cE, e5, e6, hyi, st, eA, v1']
    exact ⟨_, _, _, rfl, og, ⟨y, _, rfl, rfl, w7⟩, fg⟩
  · have v1' : ((doBook s.shards[i].book.list ⟨qe, 6, qi, qa, qt⟩).2 == 0) = true := by simpa using v1
    rw [v4]
    change ((bookTx s.shards[i].book.list qi qt (settleF qi qt)).2 == 0) = true at v1'
    change accAt (bookTx s.shards[i].book.list qi qt (settleF qi qt)).1 qi = -1 at v3
    rw [v3] at eA
    simp only [rn, RO.dst, lk, drop, Nat.reduceBEq, Nat.reduceAdd, Nat.reduceLeDiff, ↓reduceIte, reduceCtorEq, Bool.and_self, Bool.and_true, Bool.true_and, Bool.and_false, Bool.false_and, Int.reduceLT, Int.reduceLE, Int.reduceGT, Int.reduceGE, Int.reduceBEq, Int.reduceBNe, Int.reduceEq, Int.reduceNe, Int.reduceNeg, l1, l2, l3, e1, e2, e3, eI, hxi, hld, e4, eC, hlen, g0, cA, cB, cC, cD, cE, e5, e6, hyi, st, eA, v1']
    exact ⟨_, _, _, rfl, og, ⟨y, _, rfl, rfl, w7⟩, fg⟩
  · have v1' : ((doBook s.shards[i].book.list ⟨qe, 6, qi, qa, qt⟩).2 == 0) = true := by simpa using v1
    rw [v6, Account.at_get v5]
    change ((bookTx s.shards[i].book.list qi qt (settleF qi qt)).2 == 0) = true at v1'
    change accAt (bookTx s.shards[i].book.list qi qt (settleF qi qt)).1 qi = (j : Int) at v4
    have g1 : (j : Int) ≥ 0 := by omega
    rw [v4] at eA
    have hx := u7.idx v5
    have hl := u7.load v5
    simp only [Account.enc] at hl
    simp only [rn, RO.dst, lk, drop, Nat.reduceBEq, Nat.reduceAdd, Nat.reduceLeDiff, ↓reduceIte, reduceCtorEq, Bool.and_self, Bool.and_true, Bool.true_and, Bool.and_false, Bool.false_and, Int.reduceLT, Int.reduceLE, Int.reduceGT, Int.reduceGE, Int.reduceBEq, Int.reduceBNe, Int.reduceEq, Int.reduceNe, Int.reduceNeg, l1, l2, l3, e1, e2, e3, eI, hxi, hld, e4, eC, hlen, g0, cA, cB, cC, cD, cE, e5, e6, hyi, st, eA, v1', g1, hx, hl]
    exact ⟨_, _, _, rfl, og, ⟨y, _, rfl, rfl, w7⟩, fg⟩
end
end Go.Proofs.YtahkgghifaodoaaGreat.A
namespace Go.Proofs.YtahkgghifaodoaaGreat.A
open Go
set_option linter.unusedSimpArgs false
set_option linter.unusedVariables false
section
variable {F : Nat → Option RF} {Z : CallF} {h : Heap} {cs : List Cell} {fp : List Nat} {s : Store}
set_option maxHeartbeats 4000000 in
set_option maxRecDepth 8000 in
theorem sdo_op7 (k : KS F) (hf : h.floor ≤ h.next) (v : Store.RI h cs s fp) (qe qi qa qt : Int) (okq : (⟨qe, 7, qi, qa, qt⟩ : Request).Ok) (ok : s.Ok) (sm : s.Small) :
    SDoStoreAt F Z h cs s ⟨qe, 7, qi, qa, qt⟩ := by
  unfold SDoStoreAt
  obtain ⟨l1, l2, l3⟩ := Store.lenI v
  obtain ⟨cs1, h1, fr, e1, o1, v1, f1⟩ := l13Copy_c (Z := Z) k hf v sm
  have vh := Store.okI.on v o1
  have e2 := sStoreOk_run (Z := Z) k vh ok
  have e3 := l13Find_run (Z := Z) k.s13 vh qi
  have eI := fun (lo hi : Int) (h : Heap) => l01In_run (F := F) (Z := Z) k.s01 7 lo hi h
  simp only [inR] at eI
  obtain ⟨y, p, rfl, hp, w⟩ := v1
  subst hp
  rw [call_run F Z (k.s13.lk (g := 381) rfl) _ _ rfl]
  simp only [Request.enc]
  cases hg : s.good with
  | false =>
    rw [hg] at e2
    rw [dost_bad (by simp [hg])]
    simp only [rn, RO.dst, lk, drop, Nat.reduceBEq, Nat.reduceAdd, Nat.reduceLeDiff, ↓reduceIte, reduceCtorEq, Bool.and_self, Bool.and_true, Bool.true_and, Bool.and_false, Bool.false_and, Int.reduceLT, Int.reduceLE, Int.reduceGT, Int.reduceGE, Int.reduceBEq, Int.reduceBNe, Int.reduceEq, Int.reduceNe, Int.reduceNeg, l1, l2, l3, e1, e2]
    exact ⟨_, _, _, rfl, o1, ⟨y, _, rfl, rfl, w⟩, f1⟩
  | true =>
  rw [hg] at e2
  have hin : (s.good && inR (⟨qe, 7, qi, qa, qt⟩ : Request).op 0 8) = true := by rw [hg]; rfl
  obtain ⟨x, p, rfl, hp, wx⟩ := vh
  subst hp
  rcases wx.found (fun t => decide (t.lo ≤ qi) && decide (qi ≤ t.hi)) with q | ⟨i, q, hi, hpi, _⟩
  · change findId s.shards qi = -1 at q
    rw [dost_away hin q]
    rw [q] at e3
    simp only [rn, RO.dst, lk, drop, Nat.reduceBEq, Nat.reduceAdd, Nat.reduceLeDiff, ↓reduceIte, reduceCtorEq, Bool.and_self, Bool.and_true, Bool.true_and, Bool.and_false, Bool.false_and, Int.reduceLT, Int.reduceLE, Int.reduceGT, Int.reduceGE, Int.reduceBEq, Int.reduceBNe, Int.reduceEq, Int.reduceNe, Int.reduceNeg, l1, l2, l3, e1, e2, e3, eI]
    exact ⟨_, _, _, rfl, o1, ⟨y, _, rfl, rfl, w⟩, f1⟩
  change findId s.shards qi = (i : Int) at q
  rw [q] at e3
  rw [dost_at hin q, Shard.at_get hi]
  have g0 : ¬ (i : Int) < 0 := by omega
  have hxi := wx.idx hi
  have hyi := w.idx hi
  have okX := ok.shards _ (List.getElem_mem hi)
  have smX := sm.2 _ (List.getElem_mem hi)
  have smf : s.shards[i].finished.length ≤ 1048576 := smX.2
  have smb : s.shards[i].book.list.length ≤ 1048576 := smX.1
  have hgd : s.shards[i].good = true := by
    have := Store.fit_at hg hi
    simp only [Store.fits, Bool.and_eq_true, Shard.at_get hi] at this
    exact this.1
  have hso := Shard.good_sorted hgd
  have hbk : bookOk s.shards[i].book.list = true := by
    simp only [Bool.and_eq_true, Shard.good, Shard.head] at hgd
    exact hgd.1.2.2.2.1
  obtain ⟨r, fx, hld, hR0, _⟩ := wx.one hi
  obtain ⟨cs4, h4, ft, e4, o4, u4, f4⟩ := l13CopyShard_c (Z := Z) k.s10 k.s13 (o1.le hf) hR0 smX
  obtain ⟨xb, pb, xf, pf, rfl, rfl, wb, wf⟩ := hR0
  obtain ⟨b4, pb4, f4c, pf4, rfl, hq4, wb4, wf4⟩ := u4
  subst hq4
  obtain ⟨n4a, n4b, n4c⟩ := List.nodup_append.1 f4.nd
  have o04 := o1.trans o4
  have o4h := o04.le
  have w4 := w.on Shard.okI o4
  have lt4 := w4.lt Shard.okI
  have lt4f := wf4.lt (Fl.ok _)
  have eC := l13Has_run (F := F) (Z := Z) k.s13 wf4 ⟨qt, qi⟩
  simp only [Fin.enc] at eC
  have hlen := wf4.len
  cases cA : (s.shards[i].epoch != qe) with
  | true =>
    have cA' : (s.shards[i].epoch == qe) = false := by simpa using cA
    have hR : refuse s.shards[i] ⟨qe, 7, qi, qa, qt⟩ = 9 := by simp [refuse, inR, Request.ends, Request.fin, cA']
    rw [hR]
    simp only [show ((9 : Int) == 0) = false from rfl, cond_false]
    simp only [rn, RO.dst, lk, drop, Nat.reduceBEq, Nat.reduceAdd, Nat.reduceLeDiff, ↓reduceIte, reduceCtorEq, Bool.and_self, Bool.and_true, Bool.true_and, Bool.and_false, Bool.false_and, Int.reduceLT, Int.reduceLE, Int.reduceGT, Int.reduceGE, Int.reduceBEq, Int.reduceBNe, Int.reduceEq, Int.reduceNe, Int.reduceNeg, l1, l2, l3, e1, e2, e3, eI, hxi, hld, e4, eC, hlen, g0, cA]
    exact ⟨_, _, _, rfl, o04, ⟨y, _, rfl, rfl, w4⟩, f1⟩
  | false =>
  have cA' : (s.shards[i].epoch == qe) = true := by simpa using cA
  cases cB : (s.shards[i].state == 1) with
  | true =>
    have hR : refuse s.shards[i] ⟨qe, 7, qi, qa, qt⟩ = 10 := by simp [refuse, inR, Request.ends, Request.fin, cA', cB]
    rw [hR]
    simp only [show ((10 : Int) == 0) = false from rfl, cond_false]
    simp only [rn, RO.dst, lk, drop, Nat.reduceBEq, Nat.reduceAdd, Nat.reduceLeDiff, ↓reduceIte, reduceCtorEq, Bool.and_self, Bool.and_true, Bool.true_and, Bool.and_false, Bool.false_and, Int.reduceLT, Int.reduceLE, Int.reduceGT, Int.reduceGE, Int.reduceBEq, Int.reduceBNe, Int.reduceEq, Int.reduceNe, Int.reduceNeg, l1, l2, l3, e1, e2, e3, eI, hxi, hld, e4, eC, hlen, g0, cA, cB]
    exact ⟨_, _, _, rfl, o04, ⟨y, _, rfl, rfl, w4⟩, f1⟩
  | false =>
  by_cases cC : qt < 1
  · have hR : refuse s.shards[i] ⟨qe, 7, qi, qa, qt⟩ = 11 := by simp [refuse, inR, Request.ends, Request.fin, cA', cB, cC]
    rw [hR]
    simp only [show ((11 : Int) == 0) = false from rfl, cond_false]
    simp only [rn, RO.dst, lk, drop, Nat.reduceBEq, Nat.reduceAdd, Nat.reduceLeDiff, ↓reduceIte, reduceCtorEq, Bool.and_self, Bool.and_true, Bool.true_and, Bool.and_false, Bool.false_and, Int.reduceLT, Int.reduceLE, Int.reduceGT, Int.reduceGE, Int.reduceBEq, Int.reduceBNe, Int.reduceEq, Int.reduceNe, Int.reduceNeg, l1, l2, l3, e1, e2, e3, eI, hxi, hld, e4, eC, hlen, g0, cA, cB, cC]
    exact ⟨_, _, _, rfl, o04, ⟨y, _, rfl, rfl, w4⟩, f1⟩
  by_cases cD : (⟨qt, qi⟩ : Fin) ∈ s.shards[i].finished
  · have hR : refuse s.shards[i] ⟨qe, 7, qi, qa, qt⟩ = 0 := by simp [refuse, inR, Request.ends, Request.fin, cA', cB, cC, cD]
    rw [hR]
    simp only [beq_self_eq_true, cond_true]
    obtain ⟨yb, h5, fb, e5, o5, u5, f5⟩ := sReleaseHold_c (Z := Z) k.s10 (o4h hf) wb4 qi qt okX.book.list smb
    have ltb := u5.lt (Fl.ok _)
    have hA : doShard s.shards[i] ⟨qe, 7, qi, qa, qt⟩ = ⟨s.shards[i].lo, s.shards[i].hi, s.shards[i].state, s.shards[i].epoch, ⟨(doBook s.shards[i].book.list ⟨qe, 7, qi, qa, qt⟩).1⟩, addFin s.shards[i].finished ⟨qt, qi⟩⟩ := by
      rw [addFin_in cD]
      simp [doShard, Request.ends, Request.fin, cA', cB, cC, cD]
    obtain ⟨zf, h6, fz, e6, o6, u6, f6⟩ := l13AddFin_c (Z := Z) k.s13 (o5.le (o4h hf)) (wf4.on (Fl.ok _) o5) smf ⟨qt, qi⟩
    simp only [Fin.enc] at e6
    obtain ⟨g, fq, st, og, fg, w7, u7⟩ := row_set (h := h) ((o04.trans o5).trans o6) hf ((w4.on Shard.okI o5).on Shard.okI o6) f1 hi (u5.on (Fl.ok _) o6) u6 (List.nodup_append.2 ⟨f5.nd, f6.nd, fun a ha b hb e => by subst e; have := f6.lo a hb; have := ltb a ha; omega⟩) (fun id hid => by
      have := o5.ext.1
      rcases List.mem_append.1 hid with h1 | h1
      · have := f5.lo id h1; omega
      · have := f6.lo id h1; omega) (n := h4.next) lt4
      (Nat.le_trans o1.ext.1 o4.ext.1)
    rw [hA]
    have eA := l10Find_run (F := F) (Z := Z) k.s10 u7 qi
    rcases val_cases (a := qi) (doBook_srt hbk ⟨qe, 7, qi, qa, qt⟩) with ⟨v1, v2⟩ | ⟨v1, v2, v3, v4⟩ | ⟨v1, j, v2, v3, v4, v5, v6⟩
    · have v1' : ((doBook s.shards[i].book.list ⟨qe, 7, qi, qa, qt⟩).2 == 0) = false := by simpa using v1
      rw [v2]
      change ((bookTx s.shards[i].book.list qi qt (releaseF qi qt)).2 == 0) = false at v1'
      simp only [rn, RO.dst, lk, drop, Nat.reduceBEq, Nat.reduceAdd, Nat.reduceLeDiff, ↓reduceIte, reduceCtorEq, Bool.and_self, Bool.and_true, Bool.true_and, Bool.and_false, Bool.false_and, Int.reduceLT, Int.reduceLE, Int.reduceGT, Int.reduceGE, Int.reduceBEq, Int.reduceBNe, Int.reduceEq, Int.reduceNe, Int.reduceNeg, l1, l2, l3, e1, e2, e3, eI, hxi, hld, e4, eC, hlen, g0, cA, cB, cC, cD, e5, e6, hyi, st, eA, v1']
      exact ⟨_, _, _, rfl, og, ⟨y, _, rfl, rfl, w7⟩, fg⟩
    · have v1' : ((doBook s.shards[i].book.list ⟨qe, 7, qi, qa, qt⟩).2 == 0) = true := by simpa using v1
      rw [v4]
      change ((bookTx s.shards[i].book.list qi qt (releaseF qi qt)).2 == 0) = true at v1'
      change accAt (bookTx s.shards[i].book.list qi qt (releaseF qi qt)).1 qi = -1 at v3
      rw [v3] at eA
      simp only [rn, RO.dst, lk, drop, Nat.reduceBEq, Nat.reduceAdd, Nat.reduceLeDiff, ↓reduceIte, reduceCtorEq, Bool.and_self, Bool.and_true, Bool.true_and, Bool.and_false, Bool.false_and, Int.reduceLT, Int.reduceLE, Int.reduceGT, Int.reduceGE, Int.reduceBEq, Int.reduceBNe, Int.reduceEq, Int.reduceNe, Int.reduceNeg, l1, l2, l3, e1, e2, e3, eI, hxi, hld, e4, eC, hlen, g0, cA, cB, cC, cD, e5, e6, hyi, st, eA, v1']
      exact ⟨_, _, _, rfl, og, ⟨y, _, rfl, rfl, w7⟩, fg⟩
    · have v1' : ((doBook s.shards[i].book.list ⟨qe, 7, qi, qa, qt⟩).2 == 0) = true := by simpa using v1
      rw [v6, Account.at_get v5]
      change ((bookTx s.shards[i].book.list qi qt (releaseF qi qt)).2 == 0) = true at v1'
      change accAt (bookTx s.shards[i].book.list qi qt (releaseF qi qt)).1 qi = (j : Int) at v4
      have g1 : (j : Int) ≥ 0 := by omega
      rw [v4] at eA
      have hx := u7.idx v5
      have hl := u7.load v5
      simp only [Account.enc] at hl
      simp only [rn, RO.dst, lk, drop, Nat.reduceBEq, Nat.reduceAdd, Nat.reduceLeDiff, ↓reduceIte, reduceCtorEq, Bool.and_self, Bool.and_true, Bool.true_and, Bool.and_false, Bool.false_and, Int.reduceLT, Int.reduceLE, Int.reduceGT, Int.reduceGE, Int.reduceBEq, Int.reduceBNe, Int.reduceEq, Int.reduceNe, Int.reduceNeg, l1, l2, l3, e1, e2, e3, eI, hxi, hld, e4, eC, hlen, g0, cA, cB, cC, cD, e5, e6, hyi, st, eA, v1', g1, hx, hl]
      exact ⟨_, _, _, rfl, og, ⟨y, _, rfl, rfl, w7⟩, fg⟩
  cases cE : ((s.shards[i].finished.length : Int) == 60) with
  | true =>
    have hR : refuse s.shards[i] ⟨qe, 7, qi, qa, qt⟩ = 13 := by simp [refuse, inR, Request.ends, Request.fin, cA', cB, cC, cD, cE]
    rw [hR]
    simp only [show ((13 : Int) == 0) = false from rfl, cond_false]
    simp only [rn, RO.dst, lk, drop, Nat.reduceBEq, Nat.reduceAdd, Nat.reduceLeDiff, ↓reduceIte, reduceCtorEq, Bool.and_self, Bool.and_true, Bool.true_and, Bool.and_false, Bool.false_and, Int.reduceLT, Int.reduceLE, Int.reduceGT, Int.reduceGE, Int.reduceBEq, Int.reduceBNe, Int.reduceEq, Int.reduceNe, Int.reduceNeg, l1, l2, l3, e1, e2, e3, eI, hxi, hld, e4, eC, hlen, g0, cA, cB, cC, cD, cE]
    exact ⟨_, _, _, rfl, o04, ⟨y, _, rfl, rfl, w4⟩, f1⟩
  | false =>
  have hR : refuse s.shards[i] ⟨qe, 7, qi, qa, qt⟩ = 0 := by simp [refuse, inR, Request.ends, Request.fin, cA', cB, cC, cD, cE]
  rw [hR]
  simp only [beq_self_eq_true, cond_true]
  obtain ⟨yb, h5, fb, e5, o5, u5, f5⟩ := sReleaseHold_c (Z := Z) k.s10 (o4h hf) wb4 qi qt okX.book.list smb
  have ltb := u5.lt (Fl.ok _)
  have hA : doShard s.shards[i] ⟨qe, 7, qi, qa, qt⟩ = ⟨s.shards[i].lo, s.shards[i].hi, s.shards[i].state, s.shards[i].epoch, ⟨(doBook s.shards[i].book.list ⟨qe, 7, qi, qa, qt⟩).1⟩, addFin s.shards[i].finished ⟨qt, qi⟩⟩ := by
    rw [addFin_sort hso cD]
    simp [doShard, Request.ends, Request.fin, cA', cB, cC, cD, cE]
  obtain ⟨zf, h6, fz, e6, o6, u6, f6⟩ := l13AddFin_c (Z := Z) k.s13 (o5.le (o4h hf)) (wf4.on (Fl.ok _) o5) smf ⟨qt, qi⟩
  simp only [Fin.enc] at e6
  obtain ⟨g, fq, st, og, fg, w7, u7⟩ := row_set (h := h) ((o04.trans o5).trans o6) hf ((w4.on Shard.okI o5).on Shard.okI o6) f1 hi (u5.on (Fl.ok _) o6) u6 (List.nodup_append.2 ⟨f5.nd, f6.nd, fun a ha b hb e => by subst e; have := f6.lo a hb; have := ltb a ha; omega⟩) (fun id hid => by
    have := o5.ext.1
    rcases List.mem_append.1 hid with h1 | h1
    · have := f5.lo id h1; omega
    · have := f6.lo id h1; omega) (n := h4.next) lt4
    (Nat.le_trans o1.ext.1 o4.ext.1)
  rw [hA]
  have eA := l10Find_run (F := F) (Z := Z) k.s10 u7 qi
  rcases val_cases (a := qi) (doBook_srt hbk ⟨qe, 7, qi, qa, qt⟩) with ⟨v1, v2⟩ | ⟨v1, v2, v3, v4⟩ | ⟨v1, j, v2, v3, v4, v5, v6⟩
  · have v1' : ((doBook s.shards[i].book.list ⟨qe, 7, qi, qa, qt⟩).2 == 0) = false := by simpa using v1
    rw [v2]
    change ((bookTx s.shards[i].book.list qi qt (releaseF qi qt)).2 == 0) = false at v1'
    simp only [rn, RO.dst, lk, drop, Nat.reduceBEq, Nat.reduceAdd, Nat.reduceLeDiff, ↓reduceIte, reduceCtorEq, Bool.and_self, Bool.and_true, Bool.true_and, Bool.and_false, Bool.false_and, Int.reduceLT, Int.reduceLE, Int.reduceGT, Int.reduceGE, Int.reduceBEq, Int.reduceBNe, Int.reduceEq, Int.reduceNe, Int.reduceNeg, l1, l2, l3, e1, e2, e3, eI, hxi, hld, e4, eC, hlen, g0, cA, cB, cC, cD, cE, e5, e6, hyi, st, eA, v1']
    exact ⟨_, _, _, rfl, og, ⟨y, _, rfl, rfl, w7⟩, fg⟩
  · have v1' : ((doBook s.shards[i].book.list ⟨qe, 7, qi, qa, qt⟩).2 == 0) = true := by simpa using v1
    rw [v4]
    change ((bookTx s.shards[i].book.list qi qt (releaseF qi qt)).2 == 0) = true at v1'
    change accAt (bookTx s.shards[i].book.list qi qt (releaseF qi qt)).1 qi = -1 at v3
    rw [v3] at eA
    simp only [rn, RO.dst, lk, drop, Nat.reduceBEq, Nat.reduceAdd, Nat.reduceLeDiff, ↓reduceIte, reduceCtorEq, Bool.and_self, Bool.and_true, Bool.true_and, Bool.and_false, Bool.false_and, Int.reduceLT, Int.reduceLE, Int.reduceGT, Int.reduceGE, Int.reduceBEq, Int.reduceBNe, Int.reduceEq, Int.reduceNe, Int.reduceNeg, l1, l2, l3, e1, e2, e3, eI, hxi, hld, e4, eC, hlen, g0, cA, cB, cC, cD, cE, e5, e6, hyi, st, eA, v1']
    exact ⟨_, _, _, rfl, og, ⟨y, _, rfl, rfl, w7⟩, fg⟩
  · have v1' : ((doBook s.shards[i].book.list ⟨qe, 7, qi, qa, qt⟩).2 == 0) = true := by simpa using v1
    rw [v6, Account.at_get v5]
    change ((bookTx s.shards[i].book.list qi qt (releaseF qi qt)).2 == 0) = true at v1'
    change accAt (bookTx s.shards[i].book.list qi qt (releaseF qi qt)).1 qi = (j : Int) at v4
    have g1 : (j : Int) ≥ 0 := by omega
    rw [v4] at eA
    have hx := u7.idx v5
    have hl := u7.load v5
    simp only [Account.enc] at hl
    simp only [rn, RO.dst, lk, drop, Nat.reduceBEq, Nat.reduceAdd, Nat.reduceLeDiff, ↓reduceIte, reduceCtorEq, Bool.and_self, Bool.and_true, Bool.true_and, Bool.and_false, Bool.false_and, Int.reduceLT, Int.reduceLE, Int.reduceGT, Int.reduceGE, Int.reduceBEq, Int.reduceBNe, Int.reduceEq, Int.reduceNe, Int.reduceNeg, l1, l2, l3, e1, e2, e3, eI, hxi, hld, e4, eC, hlen, g0, cA, cB, cC, cD, cE, e5, e6, hyi, st, eA, v1', g1, hx, hl]
    exact ⟨_, _, _, rfl, og, ⟨y, _, rfl, rfl, w7⟩, fg⟩
set_option maxHeartbeats 4000000 in
set_option maxRecDepth 8000 in
theorem sdo_op8 (k : KS F) (hf : h.floor ≤ h.next) (v : Store.RI h cs s fp) (qe qi qa qt : Int) (okq : (⟨qe, 8, qi, qa, qt⟩ : Request).Ok) (ok : s.Ok) (sm : s.Small) :
    SDoStoreAt F Z h cs s ⟨qe, 8, qi, qa, qt⟩ := by
  unfold SDoStoreAt
  obtain ⟨l1, l2, l3⟩ := Store.lenI v
  obtain ⟨cs1, h1, fr, e1, o1, v1, f1⟩ := l13Copy_c (Z := Z) k hf v sm
  have vh := Store.okI.on v o1
  have e2 := sStoreOk_run (Z := Z) k vh ok
  have e3 := l13Find_run (Z := Z) k.s13 vh qi
  have eI := fun (lo hi : Int) (h : Heap) => l01In_run (F := F) (Z := Z) k.s01 8 lo hi h
  simp only [inR] at eI
  obtain ⟨y, p, rfl, hp, w⟩ := v1
  subst hp
  rw [call_run F Z (k.s13.lk (g := 381) rfl) _ _ rfl]
  simp only [Request.enc]
  cases hg : s.good with
  | false =>
    rw [hg] at e2
    rw [dost_bad (by simp [hg])]
    simp only [rn, RO.dst, lk, drop, Nat.reduceBEq, Nat.reduceAdd, Nat.reduceLeDiff, ↓reduceIte, reduceCtorEq, Bool.and_self, Bool.and_true, Bool.true_and, Bool.and_false, Bool.false_and, Int.reduceLT, Int.reduceLE, Int.reduceGT, Int.reduceGE, Int.reduceBEq, Int.reduceBNe, Int.reduceEq, Int.reduceNe, Int.reduceNeg, l1, l2, l3, e1, e2]
    exact ⟨_, _, _, rfl, o1, ⟨y, _, rfl, rfl, w⟩, f1⟩
  | true =>
  rw [hg] at e2
  have hin : (s.good && inR (⟨qe, 8, qi, qa, qt⟩ : Request).op 0 8) = true := by rw [hg]; rfl
  obtain ⟨x, p, rfl, hp, wx⟩ := vh
  subst hp
  rcases wx.found (fun t => decide (t.lo ≤ qi) && decide (qi ≤ t.hi)) with q | ⟨i, q, hi, hpi, _⟩
  · change findId s.shards qi = -1 at q
    rw [dost_away hin q]
    rw [q] at e3
    simp only [rn, RO.dst, lk, drop, Nat.reduceBEq, Nat.reduceAdd, Nat.reduceLeDiff, ↓reduceIte, reduceCtorEq, Bool.and_self, Bool.and_true, Bool.true_and, Bool.and_false, Bool.false_and, Int.reduceLT, Int.reduceLE, Int.reduceGT, Int.reduceGE, Int.reduceBEq, Int.reduceBNe, Int.reduceEq, Int.reduceNe, Int.reduceNeg, l1, l2, l3, e1, e2, e3, eI]
    exact ⟨_, _, _, rfl, o1, ⟨y, _, rfl, rfl, w⟩, f1⟩
  change findId s.shards qi = (i : Int) at q
  rw [q] at e3
  rw [dost_at hin q, Shard.at_get hi]
  have g0 : ¬ (i : Int) < 0 := by omega
  have hxi := wx.idx hi
  have hyi := w.idx hi
  have okX := ok.shards _ (List.getElem_mem hi)
  have smX := sm.2 _ (List.getElem_mem hi)
  have smf : s.shards[i].finished.length ≤ 1048576 := smX.2
  have smb : s.shards[i].book.list.length ≤ 1048576 := smX.1
  have hgd : s.shards[i].good = true := by
    have := Store.fit_at hg hi
    simp only [Store.fits, Bool.and_eq_true, Shard.at_get hi] at this
    exact this.1
  have hso := Shard.good_sorted hgd
  have hbk : bookOk s.shards[i].book.list = true := by
    simp only [Bool.and_eq_true, Shard.good, Shard.head] at hgd
    exact hgd.1.2.2.2.1
  obtain ⟨r, fx, hld, hR0, _⟩ := wx.one hi
  obtain ⟨cs4, h4, ft, e4, o4, u4, f4⟩ := l13CopyShard_c (Z := Z) k.s10 k.s13 (o1.le hf) hR0 smX
  obtain ⟨xb, pb, xf, pf, rfl, rfl, wb, wf⟩ := hR0
  obtain ⟨b4, pb4, f4c, pf4, rfl, hq4, wb4, wf4⟩ := u4
  subst hq4
  obtain ⟨n4a, n4b, n4c⟩ := List.nodup_append.1 f4.nd
  have o04 := o1.trans o4
  have o4h := o04.le
  have w4 := w.on Shard.okI o4
  have lt4 := w4.lt Shard.okI
  have lt4f := wf4.lt (Fl.ok _)
  have eC := l13Has_run (F := F) (Z := Z) k.s13 wf4 ⟨qt, qi⟩
  simp only [Fin.enc] at eC
  have hlen := wf4.len
  cases cA : (s.shards[i].epoch != qe) with
  | true =>
    have cA' : (s.shards[i].epoch == qe) = false := by simpa using cA
    have hR : refuse s.shards[i] ⟨qe, 8, qi, qa, qt⟩ = 9 := by simp [refuse, inR, Request.ends, Request.fin, cA']
    rw [hR]
    simp only [show ((9 : Int) == 0) = false from rfl, cond_false]
    simp only [rn, RO.dst, lk, drop, Nat.reduceBEq, Nat.reduceAdd, Nat.reduceLeDiff, ↓reduceIte, reduceCtorEq, Bool.and_self, Bool.and_true, Bool.true_and, Bool.and_false, Bool.false_and, Int.reduceLT, Int.reduceLE, Int.reduceGT, Int.reduceGE, Int.reduceBEq, Int.reduceBNe, Int.reduceEq, Int.reduceNe, Int.reduceNeg, l1, l2, l3, e1, e2, e3, eI, hxi, hld, e4, eC, hlen, g0, cA]
    exact ⟨_, _, _, rfl, o04, ⟨y, _, rfl, rfl, w4⟩, f1⟩
  | false =>
  have cA' : (s.shards[i].epoch == qe) = true := by simpa using cA
  cases cB : (s.shards[i].state == 1) with
  | true =>
    have hR : refuse s.shards[i] ⟨qe, 8, qi, qa, qt⟩ = 0 := by simp [refuse, inR, Request.ends, Request.fin, cA', cB]
    rw [hR]
    simp only [beq_self_eq_true, cond_true]
    have hA : doShard s.shards[i] ⟨qe, 8, qi, qa, qt⟩ = ⟨s.shards[i].lo, s.shards[i].hi, s.shards[i].state, s.shards[i].epoch, ⟨(doBook s.shards[i].book.list ⟨qe, 8, qi, qa, qt⟩).1⟩, s.shards[i].finished⟩ := by simp [doShard, Request.ends, Request.fin, cA', cB]
    have hD : doBook s.shards[i].book.list ⟨qe, 8, qi, qa, qt⟩ = (s.shards[i].book.list, bif decide (0 ≤ accAt s.shards[i].book.list qi) then 0 else 2) := rfl
    obtain ⟨g, fq, st, og, fg, w7, u7⟩ := row_set (h := h) o04 hf w4 f1 hi wb4 wf4 f4.nd (fun id hid => f4.lo id hid) (n := h1.next) (w.lt Shard.okI) o1.ext.1
    rw [hA]
    have eA := l10Find_run (F := F) (Z := Z) k.s10 u7 qi
    have eF := l10Find_run (F := F) (Z := Z) k.s10 wb4 qi
    rcases acc_found hbk qi with ⟨q1, _⟩ | ⟨j, q1, _, _, hj, _⟩
    · have hv : doVal (doBook s.shards[i].book.list ⟨qe, 8, qi, qa, qt⟩) qi = 0 := by simp [doVal, hD, q1]
      have hc : (doBook s.shards[i].book.list ⟨qe, 8, qi, qa, qt⟩).2 = 2 := by simp [hD, q1]
      rw [hv, hc]
      simp only [q1] at eA eF
      simp only [rn, RO.dst, lk, drop, Nat.reduceBEq, Nat.reduceAdd, Nat.reduceLeDiff, ↓reduceIte, reduceCtorEq, Bool.and_self, Bool.and_true, Bool.true_and, Bool.and_false, Bool.false_and, Int.reduceLT, Int.reduceLE, Int.reduceGT, Int.reduceGE, Int.reduceBEq, Int.reduceBNe, Int.reduceEq, Int.reduceNe, Int.reduceNeg, l1, l2, l3, e1, e2, e3, eI, hxi, hld, e4, eC, hlen, g0, cA, cB, eF, hyi, st, eA]
      exact ⟨_, _, _, rfl, og, ⟨y, _, rfl, rfl, w7⟩, fg⟩
    · have hv : doVal (doBook s.shards[i].book.list ⟨qe, 8, qi, qa, qt⟩) qi = s.shards[i].book.list[j].bal := by simp [doVal, hD, q1, Account.at_get hj]
      have hc : (doBook s.shards[i].book.list ⟨qe, 8, qi, qa, qt⟩).2 = 0 := by simp [hD, q1]
      rw [hv, hc]
      simp only [q1] at eA eF
      have g1 : ¬ (j : Int) < 0 := by omega
      have g2 : (j : Int) ≥ 0 := by omega
      have hx := u7.idx hj
      have hl := u7.load hj
      simp only [Account.enc] at hl
      simp only [rn, RO.dst, lk, drop, Nat.reduceBEq, Nat.reduceAdd, Nat.reduceLeDiff, ↓reduceIte, reduceCtorEq, Bool.and_self, Bool.and_true, Bool.true_and, Bool.and_false, Bool.false_and, Int.reduceLT, Int.reduceLE, Int.reduceGT, Int.reduceGE, Int.reduceBEq, Int.reduceBNe, Int.reduceEq, Int.reduceNe, Int.reduceNeg, l1, l2, l3, e1, e2, e3, eI, hxi, hld, e4, eC, hlen, g0, cA, cB, eF, hyi, st, eA, g1, g2, hx, hl]
      exact ⟨_, _, _, rfl, og, ⟨y, _, rfl, rfl, w7⟩, fg⟩
  | false =>
  have hR : refuse s.shards[i] ⟨qe, 8, qi, qa, qt⟩ = 0 := by simp [refuse, inR, Request.ends, Request.fin, cA', cB]
  rw [hR]
  simp only [beq_self_eq_true, cond_true]
  have hA : doShard s.shards[i] ⟨qe, 8, qi, qa, qt⟩ = ⟨s.shards[i].lo, s.shards[i].hi, s.shards[i].state, s.shards[i].epoch, ⟨(doBook s.shards[i].book.list ⟨qe, 8, qi, qa, qt⟩).1⟩, s.shards[i].finished⟩ := by simp [doShard, Request.ends, Request.fin, cA', cB]
  have hD : doBook s.shards[i].book.list ⟨qe, 8, qi, qa, qt⟩ = (s.shards[i].book.list, bif decide (0 ≤ accAt s.shards[i].book.list qi) then 0 else 2) := rfl
  obtain ⟨g, fq, st, og, fg, w7, u7⟩ := row_set (h := h) o04 hf w4 f1 hi wb4 wf4 f4.nd (fun id hid => f4.lo id hid) (n := h1.next) (w.lt Shard.okI) o1.ext.1
  rw [hA]
  have eA := l10Find_run (F := F) (Z := Z) k.s10 u7 qi
  have eF := l10Find_run (F := F) (Z := Z) k.s10 wb4 qi
  rcases acc_found hbk qi with ⟨q1, _⟩ | ⟨j, q1, _, _, hj, _⟩
  · have hv : doVal (doBook s.shards[i].book.list ⟨qe, 8, qi, qa, qt⟩) qi = 0 := by simp [doVal, hD, q1]
    have hc : (doBook s.shards[i].book.list ⟨qe, 8, qi, qa, qt⟩).2 = 2 := by simp [hD, q1]
    rw [hv, hc]
    simp only [q1] at eA eF
    simp only [rn, RO.dst, lk, drop, Nat.reduceBEq, Nat.reduceAdd, Nat.reduceLeDiff, ↓reduceIte, reduceCtorEq, Bool.and_self, Bool.and_true, Bool.true_and, Bool.and_false, Bool.false_and, Int.reduceLT, Int.reduceLE, Int.reduceGT, Int.reduceGE, Int.reduceBEq, Int.reduceBNe, Int.reduceEq, Int.reduceNe, Int.reduceNeg, l1, l2, l3, e1, e2, e3, eI, hxi, hld, e4, eC, hlen, g0, cA, cB, eF, hyi, st, eA]
    exact ⟨_, _, _, rfl, og, ⟨y, _, rfl, rfl, w7⟩, fg⟩
  · have hv : doVal (doBook s.shards[i].book.list ⟨qe, 8, qi, qa, qt⟩) qi = s.shards[i].book.list[j].bal := by simp [doVal, hD, q1, Account.at_get hj]
    have hc : (doBook s.shards[i].book.list ⟨qe, 8, qi, qa, qt⟩).2 = 0 := by simp [hD, q1]
    rw [hv, hc]
    simp only [q1] at eA eF
    have g1 : ¬ (j : Int) < 0 := by omega
    have g2 : (j : Int) ≥ 0 := by omega
    have hx := u7.idx hj
    have hl := u7.load hj
    simp only [Account.enc] at hl
    simp only [rn, RO.dst, lk, drop, Nat.reduceBEq, Nat.reduceAdd, Nat.reduceLeDiff, ↓reduceIte, reduceCtorEq, Bool.and_self, Bool.and_true, Bool.true_and, Bool.and_false, Bool.false_and, Int.reduceLT, Int.reduceLE, Int.reduceGT, Int.reduceGE, Int.reduceBEq, Int.reduceBNe, Int.reduceEq, Int.reduceNe, Int.reduceNeg, l1, l2, l3, e1, e2, e3, eI, hxi, hld, e4, eC, hlen, g0, cA, cB, eF, hyi, st, eA, g1, g2, hx, hl]
    exact ⟨_, _, _, rfl, og, ⟨y, _, rfl, rfl, w7⟩, fg⟩
end
end Go.Proofs.YtahkgghifaodoaaGreat.A
namespace Go.Proofs.YtahkgghifaodoaaGreat.A
open Go
set_option linter.unusedSimpArgs false
set_option linter.unusedVariables false
section
variable {F : Nat → Option RF} {Z : CallF} {h : Heap} {cs : List Cell} {fp : List Nat} {s : Store}
theorem op_cases' {o : Int} (h : inR o 0 8 = true) : o = 0 ∨ o = 1 ∨ o = 2 ∨ o = 3 ∨ o = 4 ∨ o = 5 ∨ o = 6 ∨ o = 7 ∨ o = 8 := by
  simp only [inR, Bool.and_eq_true, decide_eq_true_eq] at h
  omega
theorem sdo_out (k : KS F) (hf : h.floor ≤ h.next) (v : Store.RI h cs s fp) {q : Request} (hin : inR q.op 0 8 = false) (ok : s.Ok) (sm : s.Small) : SDoStoreAt F Z h cs s q := by
  unfold SDoStoreAt
  obtain ⟨l1, l2, l3⟩ := Store.lenI v
  obtain ⟨cs1, h1, fr, e1, o1, v1, f1⟩ := l13Copy_c (Z := Z) k hf v sm
  have e2 := sStoreOk_run (Z := Z) k (Store.okI.on v o1) ok
  have e3 := l01In_run (F := F) (Z := Z) k.s01 q.op 0 8 h1
  obtain ⟨m1, m2, m3⟩ := Store.lenI v1
  rw [call_run F Z (k.s13.lk (g := 381) rfl) _ _ rfl, dost_bad (by simp [hin])]
  rw [hin] at e3
  obtain ⟨qe, qo, qi, qa, qt⟩ := q
  simp only [Request.enc]
  cases hg : s.good with
  | false =>
    rw [hg] at e2
    simp only [rn, RO.dst, lk, drop, Nat.reduceBEq, Nat.reduceAdd, Nat.reduceLeDiff, ↓reduceIte, reduceCtorEq, l1, l2, l3, m1, m2, m3, e1, e2]
    exact ⟨_, _, _, rfl, o1, v1, f1⟩
  | true =>
    rw [hg] at e2
    simp only [rn, RO.dst, lk, drop, Nat.reduceBEq, Nat.reduceAdd, Nat.reduceLeDiff, ↓reduceIte, reduceCtorEq, l1, l2, l3, m1, m2, m3, e1, e2, e3]
    exact ⟨_, _, _, rfl, o1, v1, f1⟩
theorem sDoStore_c (k : KS F) (hf : h.floor ≤ h.next) (v : Store.RI h cs s fp) (q : Request) (okq : q.Ok) (ok : s.Ok) (sm : s.Small) :
    ∃ cs' h' fq, call F Z 381 [.agg cs, .agg q.enc] h = some (.tup [.agg cs', .c (.int .i64 (doStore s q).2.1), .c (.int .u64 (doStore s q).2.2)], h') ∧ On h h' ∧ Store.RI h' cs' (doStore s q).1 fq ∧ Fre h fq := by
  show SDoStoreAt F Z h cs s q
  cases hin : inR q.op 0 8 with
  | false => exact sdo_out k hf v hin ok sm
  | true =>
    obtain ⟨qe, qo, qi, qa, qt⟩ := q
    rcases op_cases' hin with h | h | h | h | h | h | h | h | h <;> (simp only at h; subst h)
    · exact sdo_op0 k hf v qe qi qa qt okq ok sm
    · exact sdo_op1 k hf v qe qi qa qt okq ok sm
    · exact sdo_op2 k hf v qe qi qa qt okq ok sm
    · exact sdo_op3 k hf v qe qi qa qt okq ok sm
    · exact sdo_op4 k hf v qe qi qa qt okq ok sm
    · exact sdo_op5 k hf v qe qi qa qt okq ok sm
    · exact sdo_op6 k hf v qe qi qa qt okq ok sm
    · exact sdo_op7 k hf v qe qi qa qt okq ok sm
    · exact sdo_op8 k hf v qe qi qa qt okq ok sm
end
end Go.Proofs.YtahkgghifaodoaaGreat.A
namespace Go.Proofs.YtahkgghifaodoaaGreat.A
open Go
set_option linter.unusedSimpArgs false
set_option linter.unusedVariables false
def sumI {α : Type} (f : α → Int) : List α → Int
  | [] => 0
  | a :: r => f a + sumI f r
section
variable {α : Type} (f : α → Int)
theorem sumI_app : ∀ (xs ys : List α), sumI f (xs ++ ys) = sumI f xs + sumI f ys
  | [], ys => by simp [sumI]
  | a :: r, ys => by
    simp only [List.cons_append, sumI, sumI_app r ys]; omega
theorem sumI_take (xs : List α) {i : Nat} (hi : i < xs.length) : sumI f (xs.take (i + 1)) = sumI f (xs.take i) + f xs[i] := by
  rw [List.take_add_one, List.getElem?_eq_getElem hi, sumI_app]
  simp [sumI]
theorem sumI_le {m : Int} : ∀ (xs : List α), (∀ a, a ∈ xs → 0 ≤ f a ∧ f a ≤ m) → 0 ≤ sumI f xs ∧ sumI f xs ≤ m * xs.length
  | [], _ => by simp [sumI]
  | a :: r, h => by
    have h1 := h a (by simp)
    have h2 := sumI_le r fun b hb => h b (by simp [hb])
    simp only [sumI, List.length_cons]
    constructor
    · omega
    · rw [Int.natCast_add, Int.mul_add]
      simp only [Int.natCast_one, Int.mul_one]
      omega
end
section
variable {F : Nat → Option RF} {Z : CallF} {h : Heap} {x : Cell} {xs : List Account} {fp : List Nat}
end
end Go.Proofs.YtahkgghifaodoaaGreat.A
namespace Go.Proofs.YtahkgghifaodoaaGreat.A
open Go
set_option linter.unusedSimpArgs false
set_option linter.unusedVariables false
def Shard.mark1 (t : Shard) (k : Int) : Shard := ⟨k, k + 1, k + 2, k + 3, ⟨Account.marks t.book.list.length (k + 4)⟩, Fin.marks t.finished.length (k + 4 + 5 * (t.book.list.length : Nat))⟩
def Shard.wt1 (t : Shard) : Int := 4 + 5 * ((t.book.list.length : Nat) : Int) + 2 * ((t.finished.length : Nat) : Int)
def Shard.marksS : List Shard → Int → List Shard
  | [], _ => []
  | t :: r, k => t.mark1 k :: Shard.marksS r (k + t.wt1)
theorem Shard.wt1_nn (t : Shard) : 0 ≤ t.wt1 := by simp only [wt1]; omega
theorem Shard.marksS_len : ∀ (xs : List Shard) (k : Int), (Shard.marksS xs k).length = xs.length
  | [], _ => rfl
  | t :: r, k => by simp only [Shard.marksS, List.length_cons, Shard.marksS_len r]
theorem Shard.marksS_app : ∀ (xs ys : List Shard) (k : Int), Shard.marksS (xs ++ ys) k = Shard.marksS xs k ++ Shard.marksS ys (k + sumI Shard.wt1 xs)
  | [], ys, k => by simp [Shard.marksS, sumI]
  | t :: r, ys, k => by
    simp only [List.cons_append, Shard.marksS, Shard.marksS_app r ys, sumI, Int.add_assoc]
theorem Shard.mark_step {xs : List Shard} {i : Nat} (hi : i < xs.length) (k : Int) :
    (Shard.marksS (xs.take i) k ++ xs.drop i).set i (xs[i].mark1 (k + sumI Shard.wt1 (xs.take i))) = Shard.marksS (xs.take (i + 1)) k ++ xs.drop (i + 1) := by
  have hl : (Shard.marksS (xs.take i) k).length = i := by rw [Shard.marksS_len, List.length_take]; omega
  rw [List.set_append_right _ _ (by omega), hl, Nat.sub_self, List.drop_eq_getElem_cons hi, List.set_cons_zero, List.take_add_one, List.getElem?_eq_getElem hi, Shard.marksS_app]
  simp [Shard.marksS]
theorem Shard.mark_at {xs : List Shard} {i : Nat} (hi : i < xs.length) (k : Int) (h : i < (Shard.marksS (xs.take i) k ++ xs.drop i).length) : (Shard.marksS (xs.take i) k ++ xs.drop i)[i] = xs[i] := by
  have hl : (Shard.marksS (xs.take i) k).length = i := by rw [Shard.marksS_len, List.length_take]; omega
  rw [List.getElem_append_right (by omega)]
  simp [hl]
section
variable {F : Nat → Option RF} {Z : CallF} {h : Heap} {x : Cell} {xs : List Shard} {fp : List Nat}
set_option maxHeartbeats 2000000 in
theorem markShardS_turn (hLShard : Has F tLShard) (hLAccount : Has F tLAccount) (hLFin : Has F tLFin) {ys : List Shard} {g : Heap} (w : SlR 16 Shard.RI g x ys fp) (nd : fp.Nodup) (hlo : ∀ id, id ∈ fp → g.floor ≤ id) {i : Nat} (hi : i < ys.length) (k : Int) (h1 : 0 ≤ k) (h2 : k + ys[i].wt1 ≤ 9200000000000000000) :
    ∃ g', loop F Z [0, 1, 5] r230L0 ⟨[(0, .c x), (1, .c (.int .i64 k)), (5, .c (.int .i64 (i : Nat)))], [], [], g⟩ = loop F Z [0, 1, 5] r230L0 ⟨[(0, .c x), (1, .c (.int .i64 (k + ys[i].wt1))), (5, .c (.int .i64 ((i + 1 : Nat) : Int)))], [], [], g'⟩ ∧
      Mk g g' fp ∧ SlR 16 Shard.RI g' x (ys.set i (ys[i].mark1 k)) fp := by
  have hle := w.le2
  have hlt : (i : Int) < ys.length := by omega
  have hws := wrapS i (by omega)
  have hwl := w.len
  have hxi := w.idx hi
  obtain ⟨r, f, rows, hR, hin, nf, hs, hns, hsl, hg, hr, hir, fin⟩ := w.turn Shard.okI nd hi
  have hput := storeP_put (h := g) (hlo _ hs) hir
  have he := put_row hg hr
  simp only [Shard.wt1] at h2 ⊢
  clear w
  generalize ys[i] = a at *
  obtain ⟨x1, p1, x2, p2, rfl, rfl, w1, w2⟩ := hR
  obtain ⟨nd1, nd2, nd3⟩ := List.nodup_append.1 nf
  generalize hg4 : g.put x.sid (rows.set i [.int .u64 k, .int .u64 (k + 1), .int .i64 (k + 2), .int .i64 (k + 3), x1, x2]) = g4
  have m4 : Mk g g4 [x.sid] := by rw [← hg4]; exact Mk.put _ _ _
  have l4 : ∀ j n, loadP g4 x.sid i j n = cut? [.int .u64 k, .int .u64 (k + 1), .int .i64 (k + 2), .int .i64 (k + 3), x1, x2] j n := by rw [← hg4]; exact loadP_put hir _
  have s1 : ∀ id, id ∈ p1 → id ∉ [x.sid] := fun id hid hc => hns (by rw [List.mem_singleton] at hc; rw [← hc]; simp [hid])
  have s2 : ∀ id, id ∈ p2 → id ∉ [x.sid] := fun id hid hc => hns (by rw [List.mem_singleton] at hc; rw [← hc]; simp [hid])
  have w1' := w1.mk (Fl.ok _) m4 s1
  have w2' := w2.mk (Fl.ok _) m4 s2
  obtain ⟨g5, e5, m5, u1⟩ := markAccountS_run (Z := Z) hLAccount w1' (fun id hid => by rw [m4.fl]; exact hlo id (hin id (by simp [hid]))) (k + 4) (by omega) (by omega)
  have w2'' := w2'.mk (Fl.ok _) m5 (fun id h1 h2 => nd3 id h2 id h1 rfl)
  have get5 : g5.get x.sid = g4.get x.sid := m5.get _ fun hc => hns (by simp [hc])
  have l5 : ∀ j n, loadP g5 x.sid i j n = cut? [.int .u64 k, .int .u64 (k + 1), .int .i64 (k + 2), .int .i64 (k + 3), x1, x2] j n := fun j n => by rw [← l4]; simp only [loadP, rowOf, get5]
  obtain ⟨g6, e6, m6, u2⟩ := markFinS_run (Z := Z) hLFin w2'' (fun id hid => by rw [m5.fl, m4.fl]; exact hlo id (hin id (by simp [hid]))) (k + 4 + 5 * (a.book.list.length : Nat)) (by omega) (by omega)
  have u1' := u1.mk (Fl.ok _) m6 (fun id h1 h2 => nd3 id h1 id h2 rfl)
  have get6 : g6.get x.sid = g4.get x.sid := (m6.get _ fun hc => hns (by simp [hc])).trans get5
  refine ⟨g6, ?_, ⟨by rw [m6.next, m5.next, m4.next], by rw [m6.fl, m5.fl, m4.fl], fun id hid => ?_⟩, ?_⟩
  · rw [loop_run]
    conv in (codeF _ _ r230L0 _) => unfold r230L0
    rw [← he]
    have hw1 := wrapI1 k (by omega) (by omega)
    have hw2 : IntKind.i64.wrap (k + 1 + 1) = k + 2 := by rw [wrapI _ (by omega) (by omega)]; omega
    have hw3 : IntKind.i64.wrap (k + 2 + 1) = k + 3 := by rw [wrapI _ (by omega) (by omega)]; omega
    have hw4 : IntKind.i64.wrap (k + 3 + 1) = k + 4 := by rw [wrapI _ (by omega) (by omega)]; omega
    have hu1 := wrapU1 k (by omega) (by omega)
    have hu2 := wrapU1 (k + 1) (by omega) (by omega)
    simp only [rn, RO.dst, lk, drop, Nat.reduceBEq, Nat.reduceAdd, Nat.reduceLeDiff, ↓reduceIte, reduceCtorEq, hwl, hlt, hxi, hput, putM_s, hw1, hw2, hw3, hw4, hu1, hu2, hg4, l4, e5, l5, e6, hws]
    rw [show k + (4 + 5 * ((a.book.list.length : Nat) : Int) + 2 * ((a.finished.length : Nat) : Int)) = k + 4 + 5 * (a.book.list.length : Nat) + 2 * (a.finished.length : Nat) from by omega]
  · rw [m6.get id (fun hc => hid (hin id (by simp [hc]))), m5.get id (fun hc => hid (hin id (by simp [hc]))), m4.get id (fun hc => hid (by rw [List.mem_singleton] at hc; rw [hc]; exact hs))]
  · refine fin g6 [.int .u64 k, .int .u64 (k + 1), .int .i64 (k + 2), .int .i64 (k + 3), x1, x2] _ (by rw [m6.next, m5.next, m4.next]; exact Nat.le_refl _) (fun id hid h3 h4 => ?_) (by rw [get6, ← hg4]; simp [Heap.put]) ⟨x1, p1, x2, p2, rfl, rfl, u1', u2⟩
    rw [m6.get id (fun hc => h4 (by simp [hc])), m5.get id (fun hc => h4 (by simp [hc])), m4.get id (by simpa using h3)]
theorem markShardS_r (hLShard : Has F tLShard) (hLAccount : Has F tLAccount) (hLFin : Has F tLFin) (w : SlR 16 Shard.RI h x xs fp) (nd : fp.Nodup) (hlo : ∀ id, id ∈ fp → h.floor ≤ id) (k : Int) (h1 : 0 ≤ k) (h2 : k + sumI Shard.wt1 xs ≤ 9200000000000000000) :
    ∃ h', call F Z 230 [.c x, .c (.int .i64 k)] h = some (.c (.int .i64 (k + sumI Shard.wt1 xs)), h') ∧ Mk h h' fp ∧ SlR 16 Shard.RI h' x (Shard.marksS xs k) fp := by
  have hle := w.le2
  have hnn : ∀ i, 0 ≤ sumI Shard.wt1 (xs.take i) := fun i => by
    have : ∀ ys : List Shard, 0 ≤ sumI Shard.wt1 ys := fun ys => by
      induction ys with
      | nil => simp [sumI]
      | cons a r ih => have := a.wt1_nn; simp only [sumI]; omega
    exact this _
  have hpre : ∀ i, sumI Shard.wt1 (xs.take i) ≤ sumI Shard.wt1 xs := fun i => by
    have e := sumI_app Shard.wt1 (xs.take i) (xs.drop i)
    rw [List.take_append_drop] at e
    have : ∀ ys : List Shard, 0 ≤ sumI Shard.wt1 ys := fun ys => by
      induction ys with
      | nil => simp [sumI]
      | cons a r ih => have := a.wt1_nn; simp only [sumI]; omega
    have := this (xs.drop i)
    omega
  rw [call_run F Z (hLShard.lk (g := 230) rfl) _ _ rfl]
  simp only [rn, RO.dst, lk, drop, Nat.reduceBEq, Nat.reduceAdd, Nat.reduceLeDiff, ↓reduceIte, reduceCtorEq]
  obtain ⟨s', ⟨g, hs, m, u⟩, l1⟩ := loop_goes (F := F) (Z := Z) (live := [0, 1, 5]) (b := r230L0) xs.length (fun i s => ∃ g, s = ⟨[(0, .c x), (1, .c (.int .i64 (k + sumI Shard.wt1 (xs.take i)))), (5, .c (.int .i64 (i : Nat)))], [], [], g⟩ ∧ Mk h g fp ∧ SlR 16 Shard.RI g x (Shard.marksS (xs.take i) k ++ xs.drop i) fp) (fun i s hi ⟨g, hs, m, u⟩ => by
    subst hs
    have hi' : i < (Shard.marksS (xs.take i) k ++ xs.drop i).length := by rw [List.length_append, Shard.marksS_len, List.length_take, List.length_drop]; omega
    have e := Shard.mark_at hi k hi'
    have hst := sumI_take Shard.wt1 xs hi
    have hp := hpre (i + 1)
    have h0 := hnn i
    obtain ⟨g', e1, m1, u1⟩ := markShardS_turn (Z := Z) hLShard hLAccount hLFin u nd (fun id hid => by rw [m.fl]; exact hlo id hid) hi' (k + sumI Shard.wt1 (xs.take i)) (by omega) (by rw [e]; omega)
    rw [e, Shard.mark_step hi] at u1
    rw [e] at e1
    refine ⟨_, ⟨g', rfl, ⟨m1.next.trans m.next, m1.fl.trans m.fl, fun id hid => (m1.get id hid).trans (m.get id hid)⟩, u1⟩, ?_⟩
    rw [e1, hst, Int.add_assoc]) (s := ⟨[(0, .c x), (1, .c (.int .i64 k)), (5, .c (.int .i64 (0 : Nat)))], [], [], h⟩) ⟨h, by simp [sumI], Mk.refl _ _, by simpa [Shard.marksS] using w⟩
  subst hs
  simp only [show ((0 : Nat) : Int) = 0 from rfl, List.take_length] at l1
  simp only [List.take_length, List.drop_length, List.append_nil] at u
  rw [l1, loop_run]
  conv in (codeF _ _ r230L0 _) => unfold r230L0
  have hlt : ¬ (xs.length : Int) < xs.length := by omega
  have hl := u.len
  rw [Shard.marksS_len] at hl
  simp only [rn, RO.dst, lk, drop, Nat.reduceBEq, Nat.reduceAdd, Nat.reduceLeDiff, ↓reduceIte, reduceCtorEq, hl, hlt]
  exact ⟨g, rfl, m, u⟩
end
namespace Store
def wt (s : Store) : Int := sumI Shard.wt1 s.shards
def marked (s : Store) (k : Int) : Store := { s with shards := Shard.marksS s.shards k }
end Store
theorem Store.wt_nn (s : Store) : 0 ≤ s.wt := by
  have : ∀ ys : List Shard, 0 ≤ sumI Shard.wt1 ys := fun ys => by
    induction ys with
    | nil => simp [sumI]
    | cons a r ih => have := a.wt1_nn; simp only [sumI]; omega
  exact this _
theorem Store.wt_le {s : Store} (sm : s.Small) : s.wt ≤ 8000000000000 := by
  obtain ⟨h1, h2⟩ := sm
  have h3 := sumI_le Shard.wt1 (m := 7340036) s.shards fun a ha => by
    obtain ⟨b1, b2⟩ := h2 a ha
    have b1' : a.book.list.length ≤ 1048576 := b1
    have := a.wt1_nn
    refine ⟨this, ?_⟩
    simp only [Shard.wt1]; omega
  have : s.wt = sumI Shard.wt1 s.shards := rfl
  omega
section
variable {F : Nat → Option RF} {Z : CallF} {h : Heap} {cs : List Cell} {t : Store} {fp : List Nat}
theorem markStore_r (hLStore : Has F tLStore) (hLShard : Has F tLShard) (hLBook : Has F tLBook) (hLAccount : Has F tLAccount) (hLFin : Has F tLFin) (v : Store.RI h cs t fp) (nd : fp.Nodup) (hlo : ∀ id, id ∈ fp → h.floor ≤ id) (k : Int) (h1 : 0 ≤ k) (h2 : k + t.wt ≤ 9200000000000000000) :
    ∃ h', call F Z 191 [.agg cs, .c (.int .i64 k)] h = some (.c (.int .i64 (k + t.wt)), h') ∧ Mk h h' fp ∧ Store.RI h' cs (t.marked k) fp := by
  obtain ⟨x, p, rfl, rfl, w⟩ := v
  obtain ⟨g, e, m, u⟩ := markShardS_r (Z := Z) hLShard hLAccount hLFin w nd hlo k h1 h2
  rw [call_run F Z (hLStore.lk (g := 191) rfl) _ _ rfl]
  simp only [rn, RO.dst, lk, drop, Nat.reduceBEq, Nat.reduceAdd, Nat.reduceLeDiff, ↓reduceIte, reduceCtorEq, e]
  exact ⟨g, rfl, m, ⟨x, _, rfl, rfl, u⟩⟩
end
end Go.Proofs.YtahkgghifaodoaaGreat.A
namespace Go.Proofs.YtahkgghifaodoaaGreat.A
open Go
set_option linter.unusedSimpArgs false
set_option linter.unusedVariables false
def Store.zeroC : List Cell := [.int .i64 0, .int .i64 0, .nil]
section
variable {F : Nat → Option RF} {Z : CallF} {h : Heap} {x y : Cell} {xs ys : List Store} {fp fq : List Nat}
end
end Go.Proofs.YtahkgghifaodoaaGreat.A
namespace Go.Proofs.YtahkgghifaodoaaGreat.A
open Go
set_option linter.unusedSimpArgs false
set_option linter.unusedVariables false
theorem Shard.marksS_at : ∀ (xs : List Shard) (k : Int) (i : Nat) (hi : i < xs.length) (h : i < (Shard.marksS xs k).length), (Shard.marksS xs k)[i] = xs[i].mark1 (k + sumI Shard.wt1 (xs.take i))
  | [], k, i, hi, h => by simp at hi
  | t :: r, k, 0, hi, h => by simp [Shard.marksS, sumI]
  | t :: r, k, i + 1, hi, h => by
    simp only [Shard.marksS, List.getElem_cons_succ, List.take_succ_cons, sumI]
    rw [Shard.marksS_at r _ i (by simpa using hi)]
    simp [Int.add_assoc]
theorem Shard.sum_nn : ∀ xs : List Shard, 0 ≤ sumI Shard.wt1 xs
  | [] => by simp [sumI]
  | a :: r => by have := a.wt1_nn; have := Shard.sum_nn r; simp only [sumI]; omega
theorem Shard.sum_pre (xs : List Shard) (i : Nat) : sumI Shard.wt1 (xs.take i) ≤ sumI Shard.wt1 xs := by
  have e := sumI_app Shard.wt1 (xs.take i) (xs.drop i)
  rw [List.take_append_drop] at e
  have := Shard.sum_nn (xs.drop i)
  omega
section
variable {F : Nat → Option RF} {Z : CallF} {h : Heap} {x : Cell} {xs : List Shard} {fp : List Nat}
set_option maxHeartbeats 2000000 in
theorem heldShardS_r (hLShard : Has F tLShard) (hLAccount : Has F tLAccount) (hLFin : Has F tLFin) {k : Int} (w : SlR 16 Shard.RI h x (Shard.marksS xs k) fp) (h1 : 0 ≤ k) (h2 : k + sumI Shard.wt1 xs ≤ 9200000000000000000) :
    call F Z 322 [.c x, .c (.int .i64 k)] h = some (.c (.int .i64 (k + sumI Shard.wt1 xs)), h) := by
  have hle := w.le2
  have hl := w.len
  rw [Shard.marksS_len] at hl hle
  rw [call_run F Z (hLShard.lk (g := 322) rfl) _ _ rfl]
  simp only [rn, RO.dst, lk, drop, Nat.reduceBEq, Nat.reduceAdd, Nat.reduceLeDiff, ↓reduceIte, reduceCtorEq]
  obtain ⟨s', hs, l1⟩ := loop_goes (F := F) (Z := Z) (live := [0, 1, 5]) (b := r322L0) xs.length (fun i s => s = ⟨[(0, .c x), (1, .c (.int .i64 (k + sumI Shard.wt1 (xs.take i)))), (5, .c (.int .i64 (i : Nat)))], [], [], h⟩) (fun i s hi hs => by
    subst hs
    refine ⟨_, rfl, ?_⟩
    have hi' : i < (Shard.marksS xs k).length := by rw [Shard.marksS_len]; exact hi
    have hst := sumI_take Shard.wt1 xs hi
    have hp := Shard.sum_pre xs (i + 1)
    have h0 := Shard.sum_nn (xs.take i)
    have hlt : (i : Int) < xs.length := by omega
    have hws := wrapS i (by omega)
    have hxi := w.idx hi'
    obtain ⟨r, f, l4, hR, _⟩ := w.one hi'
    rw [Shard.marksS_at xs k i hi] at hR
    rw [hst]
    generalize xs[i] = a at *
    generalize hkk : k + sumI Shard.wt1 (xs.take i) = q at *
    rw [show k + (sumI Shard.wt1 (xs.take i) + a.wt1) = q + a.wt1 from by omega]
    have hq0 : 0 ≤ q := by omega
    have hq1 : q + a.wt1 ≤ 9200000000000000000 := by omega
    simp only [Shard.wt1] at hq1 ⊢
    obtain ⟨x1, p1, x2, p2, rfl, rfl, w1, w2⟩ := hR
    have e5 := heldAccountS_run (Z := Z) hLAccount (n := a.book.list.length) (k := q + 4) w1 (by omega) (by omega)
    have e6 := heldFinS_run (Z := Z) hLFin (n := a.finished.length) (k := q + 4 + 5 * (a.book.list.length : Nat)) w2 (by omega) (by omega)
    have hw1 := wrapI1 q (by omega) (by omega)
    have hw2 : IntKind.i64.wrap (q + 1 + 1) = q + 2 := by rw [wrapI _ (by omega) (by omega)]; omega
    have hw3 : IntKind.i64.wrap (q + 2 + 1) = q + 3 := by rw [wrapI _ (by omega) (by omega)]; omega
    have hw4 : IntKind.i64.wrap (q + 3 + 1) = q + 4 := by rw [wrapI _ (by omega) (by omega)]; omega
    have hu1 := wrapU1 q (by omega) (by omega)
    have hu2 := wrapU1 (q + 1) (by omega) (by omega)
    have n0 : ¬ q + 4 + 5 * ((a.book.list.length : Nat) : Int) < 0 := by omega
    have n1 : ¬ q + 4 + 5 * ((a.book.list.length : Nat) : Int) + 2 * ((a.finished.length : Nat) : Int) < 0 := by omega
    rw [loop_run]
    conv in (codeF _ _ r322L0 _) => unfold r322L0
    simp only [Shard.mark1] at l4
    simp only [rn, RO.dst, lk, drop, Nat.reduceBEq, Nat.reduceAdd, Nat.reduceLeDiff, ↓reduceIte, reduceCtorEq, hl, hlt, hxi, l4, hw1, hw2, hw3, hw4, hu1, hu2, e5, e6, n0, n1, hws]
    rw [show q + (4 + 5 * ((a.book.list.length : Nat) : Int) + 2 * ((a.finished.length : Nat) : Int)) = q + 4 + 5 * (a.book.list.length : Nat) + 2 * (a.finished.length : Nat) from by omega]) (s := ⟨[(0, .c x), (1, .c (.int .i64 k)), (5, .c (.int .i64 (0 : Nat)))], [], [], h⟩) (by simp [sumI])
  subst hs
  simp only [show ((0 : Nat) : Int) = 0 from rfl, List.take_length] at l1
  rw [l1, loop_run]
  conv in (codeF _ _ r322L0 _) => unfold r322L0
  have hlt : ¬ (xs.length : Int) < xs.length := by omega
  simp only [rn, RO.dst, lk, drop, Nat.reduceBEq, Nat.reduceAdd, Nat.reduceLeDiff, ↓reduceIte, reduceCtorEq, hl, hlt]
end
section
variable {F : Nat → Option RF} {Z : CallF} {h : Heap} {cs : List Cell} {t : Store} {fp : List Nat}
theorem heldStore_r (hLStore : Has F tLStore) (hLShard : Has F tLShard) (hLBook : Has F tLBook) (hLAccount : Has F tLAccount) (hLFin : Has F tLFin) {k : Int} (v : Store.RI h cs (t.marked k) fp) (h1 : 0 ≤ k) (h2 : k + t.wt ≤ 9200000000000000000) :
    call F Z 292 [.agg cs, .c (.int .i64 k)] h = some (.c (.int .i64 (k + t.wt)), h) := by
  obtain ⟨x, p, rfl, rfl, w⟩ := v
  have e := heldShardS_r (Z := Z) hLShard hLAccount hLFin (xs := t.shards) w h1 h2
  have hn := t.wt_nn
  rw [call_run F Z (hLStore.lk (g := 292) rfl) _ _ rfl]
  have he : sumI Shard.wt1 t.shards = t.wt := rfl
  rw [he] at e
  have hk : ¬ k + t.wt < 0 := by omega
  simp only [rn, RO.dst, lk, drop, Nat.reduceBEq, Nat.reduceAdd, Nat.reduceLeDiff, ↓reduceIte, reduceCtorEq, e, hk]
end
def Store.mark1 (t : Store) (k : Int) : Store := ⟨k, k + 1, Shard.marksS t.shards (k + 2)⟩
def Store.wt1 (t : Store) : Int := 2 + sumI Shard.wt1 t.shards
def Store.marksS : List Store → Int → List Store
  | [], _ => []
  | t :: r, k => t.mark1 k :: Store.marksS r (k + t.wt1)
theorem Store.wt1_nn (t : Store) : 0 ≤ t.wt1 := by have := Shard.sum_nn t.shards; simp only [wt1]; omega
theorem Store.sum_nn : ∀ xs : List Store, 0 ≤ sumI Store.wt1 xs
  | [] => by simp [sumI]
  | a :: r => by have := a.wt1_nn; have := Store.sum_nn r; simp only [sumI]; omega
theorem Store.sum_pre (xs : List Store) (i : Nat) : sumI Store.wt1 (xs.take i) ≤ sumI Store.wt1 xs := by
  have e := sumI_app Store.wt1 (xs.take i) (xs.drop i)
  rw [List.take_append_drop] at e
  have := Store.sum_nn (xs.drop i)
  omega
theorem Store.marksS_len : ∀ (xs : List Store) (k : Int), (Store.marksS xs k).length = xs.length
  | [], _ => rfl
  | t :: r, k => by simp only [Store.marksS, List.length_cons, Store.marksS_len r]
theorem Store.marksS_app : ∀ (xs ys : List Store) (k : Int), Store.marksS (xs ++ ys) k = Store.marksS xs k ++ Store.marksS ys (k + sumI Store.wt1 xs)
  | [], ys, k => by simp [Store.marksS, sumI]
  | t :: r, ys, k => by
    simp only [List.cons_append, Store.marksS, Store.marksS_app r ys, sumI, Int.add_assoc]
theorem Store.mark_step {xs : List Store} {i : Nat} (hi : i < xs.length) (k : Int) :
    (Store.marksS (xs.take i) k ++ xs.drop i).set i (xs[i].mark1 (k + sumI Store.wt1 (xs.take i))) = Store.marksS (xs.take (i + 1)) k ++ xs.drop (i + 1) := by
  have hl : (Store.marksS (xs.take i) k).length = i := by rw [Store.marksS_len, List.length_take]; omega
  rw [List.set_append_right _ _ (by omega), hl, Nat.sub_self, List.drop_eq_getElem_cons hi, List.set_cons_zero, List.take_add_one, List.getElem?_eq_getElem hi, Store.marksS_app]
  simp [Store.marksS]
theorem Store.mark_at {xs : List Store} {i : Nat} (hi : i < xs.length) (k : Int) (h : i < (Store.marksS (xs.take i) k ++ xs.drop i).length) : (Store.marksS (xs.take i) k ++ xs.drop i)[i] = xs[i] := by
  have hl : (Store.marksS (xs.take i) k).length = i := by rw [Store.marksS_len, List.length_take]; omega
  rw [List.getElem_append_right (by omega)]
  simp [hl]
section
variable {F : Nat → Option RF} {Z : CallF} {h : Heap} {x : Cell} {xs : List Store} {fp : List Nat}
end
end Go.Proofs.YtahkgghifaodoaaGreat.A
namespace Go.Proofs.YtahkgghifaodoaaGreat.A
open Go
set_option linter.unusedSimpArgs false
set_option linter.unusedVariables false
section
variable {F : Nat → Option RF} {Z : CallF} {h : Heap} {x y : Cell} {xs ys : List Request} {fp fq : List Nat}
def Request.zero : List Cell := [.int .i64 0, .int .i64 0, .int .u64 0, .int .u64 0, .int .i64 0]
theorem toRequest_run (hL : Has F tLRequest) (p : Request) (h : Heap) : call F Z 109 [.agg p.enc] h = some (.agg p.enc, h) := by
  rw [call_run F Z (hL.lk (g := 109) rfl) _ _ rfl]
  simp only [Request.enc, rn, RO.dst, lk, drop, Nat.reduceBEq, Nat.reduceAdd, Nat.reduceLeDiff, ↓reduceIte, reduceCtorEq]
def Request.mk_ (k : Int) : Request := ⟨k, k + 1, k + 1 + 1, k + 1 + 1 + 1, k + 1 + 1 + 1 + 1⟩
def Request.marks (n : Nat) (k : Int) : List Request := (List.range n).map fun i : Nat => Request.mk_ (k + 5 * (i : Int))
theorem Request.marks_len (n : Nat) (k : Int) : (Request.marks n k).length = n := by simp [Request.marks]
end
end Go.Proofs.YtahkgghifaodoaaGreat.A
