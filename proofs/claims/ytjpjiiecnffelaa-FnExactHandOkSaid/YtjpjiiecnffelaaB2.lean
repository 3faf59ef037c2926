/- Code, loops, functions: what the abstract run tells, the machine does. -/
import Derived.Test.YtjpjiiecnffelaaB1
import Derived.Deep.LoopGhost
import Derived.Orders
namespace Go.Proofs.Ytjpjiiecnffelaa.A
open Go
variable {K : Cfg} {c : CC}

/-! ### the heap only goes on -/
theorem Step.refl (h : Heap) : Step h h := ⟨Nat.le_refl _, rfl, fun _ _ _ => rfl, fun _ _ h => h⟩
theorem Step.trans {a b c : Heap} (h : Step a b) (k : Step b c) : Step a c :=
  ⟨Nat.le_trans h.next k.next, k.floor.trans h.floor, fun id h1 h2 => (k.below id (by rw [h.floor]; exact h1) (Nat.lt_of_lt_of_le h2 h.next)).trans (h.below id h1 h2),
    fun id h1 h2 => k.dead id (Nat.lt_of_lt_of_le h1 h.next) (h.dead id h1 h2)⟩
theorem Step.push (h : Heap) (rows : List (List Cell)) : Step h (h.push rows) :=
  ⟨by simp [Heap.push], rfl, fun id _ h2 => by simp only [Heap.push]; rw [if_neg (by omega)], fun id h1 h2 => by simp only [Heap.push]; rw [if_neg (by omega)]; exact h2⟩
theorem Step.kill (h : Heap) (k : Nat) (hk : h.floor ≤ k) : Step h (h.kill k) :=
  ⟨Nat.le_refl _, rfl, fun id h1 _ => by simp only [Heap.kill]; rw [if_neg (by omega)], fun id _ h2 => by simp only [Heap.kill]; split <;> first | rfl | exact h2⟩
theorem Step.put (h : Heap) (k : Nat) (rows : List (List Cell)) {old : List (List Cell)} (hk : h.floor ≤ k) (ho : h.get k = some old) : Step h (h.put k rows) :=
  ⟨Nat.le_refl _, rfl, fun id h1 _ => by simp only [Heap.put]; rw [if_neg (by omega)], fun id _ h2 => by
    simp only [Heap.put]; split
    · rename_i he; subst he; rw [h2] at ho; cases ho
    · exact h2⟩
def StepC (C : CallF) : Prop := ∀ f vs h r, C f vs h = some r → h.floor ≤ h.next → Step h r.2
def StepL (L : LoopF) : Prop := ∀ l b s r, L l b s = some r → s.hp.floor ≤ s.hp.next → Step s.hp r.2.hp
theorem Step.fl {a b : Heap} (h : Step a b) (hf : a.floor ≤ a.next) : b.floor ≤ b.next := by rw [h.floor]; exact Nat.le_trans hf h.next
theorem doCall_step {C : CallF} (hC : StepC C) {f : Nat} {vs : List V} {q : Bool} {h : Heap} {r : V × Heap} (e : doCall C f vs q h = some r) (hf : h.floor ≤ h.next) : Step h r.2 := by
  unfold doCall at e
  cases q with
  | false => exact hC _ _ _ _ e hf
  | true =>
    obtain ⟨x, h1, h2⟩ := Option.bind_eq_some_iff.1 e
    injection h2 with h2; subst h2
    have T := hC _ _ _ _ h1 (Nat.le_refl _)
    exact ⟨T.next, rfl, fun id _ h2 => T.below id h2 h2, fun id h1 h2 => T.dead id h1 h2⟩
theorem appF_step {h : Heap} {tag bytes : Nat} {a b : Cell} {r : Cell × Heap} (e : appF h tag bytes a b = some r) : Step h r.2 := by
  unfold appF at e
  split at e
  · obtain ⟨new, _, e⟩ := Option.bind_eq_some_iff.1 e
    split at e
    · split at e
      · injection e with e; subst e; exact Step.refl _
      · split at e
        · injection e with e; subst e; exact Step.push _ _
        · cases e
    · obtain ⟨rows, _, e⟩ := Option.bind_eq_some_iff.1 e
      split at e
      · rename_i hc; injection e with e; subst e; exact (Step.kill h _ hc.2.2.2.1).trans (Step.push _ _)
      · cases e
    · cases e
  · cases e
def KeepHp (s : St) (x : Option St) : Prop := ∀ s', x = some s' → s'.hp = s.hp
theorem KeepHp.none {s : St} : KeepHp s none := fun _ h => by cases h
theorem KeepHp.some {s u : St} (h : u.hp = s.hp) : KeepHp s (some u) := fun s' e => by injection e with e; rw [← e]; exact h
theorem KeepHp.bind {α : Type} {s : St} {x : Option α} {f : α → Option St} (h : ∀ v, KeepHp s (f v)) : KeepHp s (x.bind f) := fun s' e => by
  obtain ⟨v, _, e2⟩ := Option.bind_eq_some_iff.1 e
  exact h v s' e2
theorem opF_step {C : CallF} (hC : StepC C) {s s' : St} {o : RO} (e : opF C s o = some s') (hf : s.hp.floor ≤ s.hp.next) : Step s.hp s'.hp := by
  cases o with
  | call d f xs q =>
    obtain ⟨vs, h1, h2⟩ := Option.bind_eq_some_iff.1 e
    obtain ⟨x, h3, h4⟩ := Option.bind_eq_some_iff.1 h2
    injection h4 with h4; subst h4
    have := doCall_step hC h3 hf
    cases d <;> exact this
  | calv d x xs q =>
    simp only [opF] at e
    split at e
    · obtain ⟨vs, h1, h2⟩ := Option.bind_eq_some_iff.1 e
      obtain ⟨x, h3, h4⟩ := Option.bind_eq_some_iff.1 h2
      injection h4 with h4; subst h4
      have := doCall_step hC h3 hf
      cases d <;> exact this
    · cases e
  | app d tag bytes x y =>
    obtain ⟨p, _, e⟩ := Option.bind_eq_some_iff.1 e
    obtain ⟨r, _, e⟩ := Option.bind_eq_some_iff.1 e
    obtain ⟨u, h3, e⟩ := Option.bind_eq_some_iff.1 e
    injection e with e; subst e
    exact appF_step h3
  | new d z => injection e with e; subst e; exact Step.push _ _
  | newb d x =>
    obtain ⟨p, _, e⟩ := Option.bind_eq_some_iff.1 e
    obtain ⟨r, _, e⟩ := Option.bind_eq_some_iff.1 e
    injection e with e; subst e; exact Step.push _ _
  | lit d tag len z ps =>
    obtain ⟨p, _, e⟩ := Option.bind_eq_some_iff.1 e
    obtain ⟨r, _, e⟩ := Option.bind_eq_some_iff.1 e
    injection e with e; subst e; exact Step.push _ _
  | mks d tag bytes z x y =>
    simp only [opF] at e
    split at e
    · split at e
      · injection e with e; subst e; exact Step.push _ _
      · cases e
    · cases e
  | store a n x =>
    simp only [opF] at e
    obtain ⟨p, _, e⟩ := Option.bind_eq_some_iff.1 e
    obtain ⟨r, _, e⟩ := Option.bind_eq_some_iff.1 e
    split at e
    · split at e
      · obtain ⟨p, _, e⟩ := Option.bind_eq_some_iff.1 e
        obtain ⟨r, _, e⟩ := Option.bind_eq_some_iff.1 e
        injection e with e; subst e; exact Step.refl _
      · split at e
        · obtain ⟨h', h1, e⟩ := Option.bind_eq_some_iff.1 e
          injection e with e; subst e
          unfold storeP at h1
          split at h1
          · rename_i hfl
            obtain ⟨rows, h2, h1⟩ := Option.bind_eq_some_iff.1 h1
            obtain ⟨r, _, h1⟩ := Option.bind_eq_some_iff.1 h1
            obtain ⟨r', _, h1⟩ := Option.bind_eq_some_iff.1 h1
            injection h1 with h1; subst h1
            exact Step.put _ _ _ hfl h2
          · cases h1
        · cases e
    · cases e
  | _ =>
    have : s'.hp = s.hp := by
      refine (?_ : KeepHp s (opF C s _)) s' e
      simp only [opF]
      repeat' first
        | exact KeepHp.none
        | exact KeepHp.some rfl
        | refine KeepHp.bind fun _ => ?_
        | split
    rw [this]; exact Step.refl _
theorem regF_step {C : CallF} (hC : StepC C) : ∀ (g : List RG) {s s' : St}, regF C g s = some s' → s.hp.floor ≤ s.hp.next → Step s.hp s'.hp
  | [], _, _, e, _ => by injection e with e; subst e; exact Step.refl _
  | g :: r, s, s', e, hf => by
    unfold regF at e
    split at e
    · obtain ⟨x, h1, h2⟩ := Option.bind_eq_some_iff.1 e
      have T := opF_step hC h1 hf
      exact T.trans (regF_step hC r h2 (T.fl hf))
    · split at e
      · rename_i b _
        cases hb : (b == _) with
        | true =>
          rw [hb] at e
          obtain ⟨x, h1, h2⟩ := Option.bind_eq_some_iff.1 e
          have T := opF_step hC h1 hf
          exact T.trans (regF_step hC r h2 (T.fl hf))
        | false =>
          rw [hb] at e
          have hsk : (s.skipO g.op.dst).hp = s.hp := by cases g.op.dst <;> rfl
          have := regF_step hC r e (by rw [hsk]; exact hf)
          rwa [hsk] at this
      · cases e
theorem codeF_step {C : CallF} {L : LoopF} (hC : StepC C) (hL : StepL L) : ∀ (c : RC) {s : St} {r : Ex × St}, codeF C L c s = some r → s.hp.floor ≤ s.hp.next → Step s.hp r.2.hp
  | .skip, _, _, e, _ => by injection e with e; subst e; exact Step.refl _
  | .exit _, _, _, e, _ => by injection e with e; subst e; exact Step.refl _
  | .ret, _, _, e, _ => by injection e with e; subst e; exact Step.refl _
  | .reg ops, s, r, e, hf => by
    obtain ⟨x, h1, h2⟩ := Option.bind_eq_some_iff.1 e
    injection h2 with h2; subst h2
    exact regF_step hC ops h1 hf
  | .seq a b, s, r, e, hf => by
    obtain ⟨x, h1, h2⟩ := Option.bind_eq_some_iff.1 e
    have T := codeF_step hC hL a h1 hf
    split at h2
    · exact T.trans (codeF_step hC hL b h2 (T.fl hf))
    · injection h2 with h2; subst h2; exact T
  | .cond k x y, s, r, e, hf => by
    simp only [codeF] at e
    split at e
    · rename_i b _
      cases b
      · exact codeF_step hC hL y e hf
      · exact codeF_step hC hL x e hf
    · cases e
  | .block id b, s, r, e, hf => by
    obtain ⟨x, h1, h2⟩ := Option.bind_eq_some_iff.1 e
    have T := codeF_step hC hL b h1 hf
    split at h2
    · rename_i i _
      cases hi : (i == id) with
      | true => rw [hi] at h2; injection h2 with h2; subst h2; exact T
      | false => rw [hi] at h2; injection h2 with h2; subst h2; exact T
    · injection h2 with h2; subst h2; exact T
  | .loop live b, s, r, e, hf => hL live b (s.prune live) r e hf
theorem fuel_step (F : Nat → Option RF) (Z : CallF) (hZ : StepC Z) : ∀ n, StepC (callN F Z n) ∧ StepL (loopN F Z n)
  | 0 => ⟨fun _ _ _ _ h => by simp [callN] at h, fun _ _ _ _ h => by simp [loopN] at h⟩
  | n + 1 => by
    obtain ⟨hc, hl⟩ := fuel_step F Z hZ n
    constructor
    · intro f vs h r e hf
      rw [callN] at e
      cases hF : F f with
      | none => rw [hF] at e; exact hZ _ _ _ _ e hf
      | some rf =>
        rw [hF] at e
        simp only [funF] at e
        split at e
        · obtain ⟨x, h1, h2⟩ := Option.bind_eq_some_iff.1 e
          have T := codeF_step hc hl _ h1 hf
          split at h2
          · cases h2
          · obtain ⟨vs', _, h3⟩ := Option.bind_eq_some_iff.1 h2
            injection h3 with h3; subst h3; exact T
        · cases e
    · intro l b s r e hf
      rw [loopN] at e
      obtain ⟨x, h1, h2⟩ := Option.bind_eq_some_iff.1 e
      have T := codeF_step hc hl _ h1 hf
      split at h2
      · exact T.trans (hl l b (x.2.prune l) r h2 (T.fl hf))
      · injection h2 with h2; subst h2; exact T

section
variable {μ : Mu} {lam : Nat → Option Nat} {E : Nat} {A : Nat → Prop} {nt : Nat} {s s' : St} {a : Act} {w : World} {esc : List Nat} {q : Bool} {o : Oper} {C : CallF} {Q : Exit → Act → World → Prop}

def DstIs (d : Option Nat) (x : Option RO) : Prop := ∀ ro, x = some ro → ro.dst = d
theorem DstIs.none {d : Option Nat} : DstIs d none := fun _ h => by cases h
theorem DstIs.some {d : Option Nat} {u : RO} (h : u.dst = d) : DstIs d (some u) := fun s' e => by injection e with e; rw [← e]; exact h
theorem DstIs.map {α : Type} {d : Option Nat} {x : Option α} {f : α → RO} (h : ∀ v, (f v).dst = d) : DstIs d (x.map f) := fun s' e => by
  obtain ⟨v, _, e2⟩ := Option.map_eq_some_iff.1 e
  rw [← e2]; exact h v
theorem DstIs.bind {α : Type} {d : Option Nat} {x : Option α} {f : α → Option RO} (h : ∀ v, DstIs d (f v)) : DstIs d (x.bind f) := fun s' e => by
  obtain ⟨v, _, e2⟩ := Option.bind_eq_some_iff.1 e
  exact h v s' e2
theorem Post.next {s1 : St} {μ1 : Mu} {w1 : World} {a2 : Act} {w2 : World} (hx : ExtN s.hp.next μ μ1) (hF : Fr A w w1) (T : Step s.hp s1.hp) (P : Post K μ1 E A nt s1 s' w1 a2 w2) : Post K μ E A nt s s' w a2 w2 := by
  obtain ⟨μ2, lam2, h1, h2, h3⟩ := P
  exact ⟨μ2, lam2, h1, hx.trans h2 T.next, hF.trans h3⟩

theorem compOp_dst {ro : RO} {dst : Option Nat} {op : Op} (h : compOp c esc q dst op = some ro) : ro.dst = dst := by
  refine (?_ : DstIs dst (compOp c esc q dst op)) ro h
  unfold compOp compCall
  repeat' first
    | exact DstIs.none
    | exact DstIs.some rfl
    | exact DstIs.map fun _ => rfl
    | refine DstIs.bind fun _ => ?_
    | split
theorem wp_op_mono {next next' : Act → World → Prop} (h : o.wp K.P a w next Q) (hn : ∀ a w, next a w → next' a w) : o.wp K.P a w next' Q := Oper.wp_mono hn h
/-- The operations of a region whose order is fixed. -/
theorem list_sound (hc : CCok K c) (hC : CallSound K C) (hT : StepC C) {ops : Array Oper} : ∀ (l : List Oper) (g : List RG) {s s' : St} {μ : Mu} {lam : Nat → Option Nat} {a : Act} {w : World}, compOps c esc q nt ops l = some g → regF C g s = some s' → SE K μ lam E A nt s a w → E ≤ w.heap.size →
    (∀ a' w', Post K μ E A nt s s' w a' w' → Q .normal a' w') → wpList K.P ops Q l a w
  | [], g, s, s', μ, lam, a, w, hg, e, S, hE, hQ => by
    injection hg with hg; subst hg
    injection e with e; subst e
    exact hQ a w ⟨μ, lam, S, ExtN.refl _ _, Fr.refl _ _⟩
  | o :: l, g, s, s', μ, lam, a, w, hg, e, S, hE, hQ => by
    simp only [compOps] at hg
    split at hg
    · rename_i hd
      obtain ⟨ro, h1, hg⟩ := Option.bind_eq_some_iff.1 hg
      obtain ⟨gd, h2, hg⟩ := Option.bind_eq_some_iff.1 hg
      obtain ⟨g', h3, hg⟩ := Option.bind_eq_some_iff.1 hg
      injection hg with hg; subst hg
      have hdst : ro.dst = o.dst := compOp_dst h1
      have go : ∀ {s1 : St}, opF C s ro = some s1 → regF C g' s1 = some s' → o.wp K.P a w (wpList K.P ops Q l) Q := by
        intro s1 e1 e2
        refine wp_op_mono (op_sound hc hC h1 hd S hE e1) fun a1 w1 P1 => ?_
        obtain ⟨μ1, lam1, S1, hx, hF⟩ := P1
        have T := opF_step hT e1 S.fl.2
        exact list_sound hc hC hT l g' h3 e2 S1 (Nat.le_trans hE hF.size) fun a2 w2 P2 => hQ a2 w2 (Post.next hx hF T P2)
      unfold wpList
      unfold regF at e
      cases hgo : o.guard with
      | none =>
        rw [hgo] at h2; injection h2 with h2; subst h2
        obtain ⟨s1, e1, e2⟩ := Option.bind_eq_some_iff.1 e
        rw [if_pos (by simp [Region.wanted, hgo])]
        exact .inl (go e1 e2)
      | some p =>
        obtain ⟨j, want⟩ := p
        rw [hgo] at h2
        simp only [compGuard, Option.map_eq_some_iff] at h2
        obtain ⟨t, h4, h5⟩ := h2
        subst h5
        simp only at e
        split at e
        · rename_i b hb
          have hv : a.tmps.getD t undef = .bool b := S.env _ _ hb
          have ht : a.tmps[t]? = some (.bool b) := by
            rw [Array.getD_eq_getD_getElem?] at hv
            cases hq : a.tmps[t]? with
            | none => rw [hq] at hv; cases hv
            | some u => rw [hq] at hv; simp at hv; rw [hv]
          have hy : yielded ops a.tmps j = some b := by
            unfold yielded
            rw [h4]
            simp [ht]
          cases hbw : (b == want) with
          | true =>
            rw [hbw] at e
            obtain ⟨s1, e1, e2⟩ := Option.bind_eq_some_iff.1 e
            rw [if_pos (by simp [Region.wanted, hgo, hy]; simpa using hbw)]
            exact .inl (go e1 e2)
          | false =>
            rw [hbw] at e
            rw [if_neg (by simp [Region.wanted, hgo, hy]; simpa using hbw)]
            rw [← hdst]
            have hsk : (s.skipO ro.dst).hp = s.hp := by cases ro.dst <;> rfl
            refine list_sound hc hC hT l g' h3 e (S.skipO ro.dst undef) hE fun a2 w2 P2 => hQ a2 w2 ?_
            obtain ⟨μ2, lam2, p1, p2, p3⟩ := P2
            rw [hsk] at p2
            exact ⟨μ2, lam2, p1, p2, p3⟩
        · cases e
    · cases hg

/-! ### code -/
def exOf : Ex → Exit
  | .normal => .normal
  | .exit i => .exit i
  | .ret => .ret
/-- What a piece of code leaves. -/
def Out (K : Cfg) (μ : Mu) (E : Nat) (A : Nat → Prop) (nt : Nat) (s : St) (w : World) (r : Ex × St) (x : Exit) (a' : Act) (w' : World) : Prop := x = exOf r.1 ∧ Post K μ E A nt s r.2 w a' w'
def LoopSound (K : Cfg) (c : CC) (L : LoopF) : Prop := ∀ (esc : List Nat) (nt : Nat) (b : Code) (an : List (List Nat)) (rb : RC) (an' : List (List Nat)), compC c esc nt b an = some (rb, an') →
  ∀ (live : List Nat) (s : St) (r : Ex × St), L live rb s = some r → ∀ (μ : Mu) (lam : Nat → Option Nat) (E : Nat) (A : Nat → Prop) (a : Act) (w : World), SE K μ lam E A nt s a w → E ≤ w.heap.size →
  (Code.loop b).wp K.P (Out K μ E A nt s w r) a w

theorem code_sound (hc : CCok K c) (hC : CallSound K C) {L : LoopF} (hL : LoopSound K c L) (hTC : StepC C) (hTL : StepL L) : ∀ (b : Code) (an : List (List Nat)) (rb : RC) (an' : List (List Nat)), compC c esc nt b an = some (rb, an') →
    ∀ (s : St) (r : Ex × St), codeF C L rb s = some r → ∀ (μ : Mu) (lam : Nat → Option Nat) (a : Act) (w : World), SE K μ lam E A nt s a w → E ≤ w.heap.size → b.wp K.P (Out K μ E A nt s w r) a w
  | .skip, an, rb, an', h, s, r, e, μ, lam, a, w, S, hE => by
    injection h with h; injection h with h1 h2; subst h1
    injection e with e; subst e
    exact wp_skip ⟨rfl, μ, lam, S, ExtN.refl _ _, Fr.refl _ _⟩
  | .exit id, an, rb, an', h, s, r, e, μ, lam, a, w, S, hE => by
    injection h with h; injection h with h1 h2; subst h1
    injection e with e; subst e
    exact wp_exit ⟨rfl, μ, lam, S, ExtN.refl _ _, Fr.refl _ _⟩
  | .ret, an, rb, an', h, s, r, e, μ, lam, a, w, S, hE => by
    injection h with h; injection h with h1 h2; subst h1
    injection e with e; subst e
    exact wp_ret ⟨rfl, μ, lam, S, ExtN.refl _ _, Fr.refl _ _⟩
  | .region id ops false, an, rb, an', h, s, r, e, μ, lam, a, w, S, hE => by
    simp only [compC] at h
    obtain ⟨l, h1, h2⟩ := Option.bind_eq_some_iff.1 h
    injection h2 with h2; injection h2 with h2 _; subst h2
    obtain ⟨s1, e1, e2⟩ := Option.bind_eq_some_iff.1 e
    injection e2 with e2; subst e2
    exact wp_region_list (list_sound hc hC hTC ops.toList l h1 e1 S hE fun a' w' P => ⟨rfl, P⟩)
  | .region id ops true, an, rb, an', h, s, r, e, μ, lam, a, w, S, hE => by simp [compC] at h
  | .seq x y, an, rb, an', h, s, r, e, μ, lam, a, w, S, hE => by
    simp only [compC] at h
    obtain ⟨x1, h1, h⟩ := Option.bind_eq_some_iff.1 h
    obtain ⟨y1, h2, h⟩ := Option.bind_eq_some_iff.1 h
    injection h with h; injection h with h3 h4; subst h3
    obtain ⟨r1, e1, e2⟩ := Option.bind_eq_some_iff.1 e
    have T := codeF_step hTC hTL _ e1 S.fl.2
    refine wp_seq (wp_mono (code_sound hc hC hL hTC hTL x an x1.1 x1.2 h1 s r1 e1 μ lam a w S hE) ?_)
    rintro ex a1 w1 ⟨rfl, P1⟩
    split at e2
    · rename_i hn
      rw [hn]
      obtain ⟨μ1, lam1, S1, hx, hF⟩ := P1
      refine wp_mono (code_sound hc hC hL hTC hTL y x1.2 y1.1 y1.2 h2 r1.2 r e2 μ1 lam1 a1 w1 S1 (Nat.le_trans hE hF.size)) ?_
      rintro ex a2 w2 ⟨rfl, P2⟩
      exact ⟨rfl, Post.next hx hF T P2⟩
    · rename_i hn
      injection e2 with e2; subst e2
      have : Exit.then (y.wp K.P (Out K μ E A nt s w (r1.1, r1.2))) (Out K μ E A nt s w (r1.1, r1.2)) (exOf r1.1) a1 w1 = Out K μ E A nt s w (r1.1, r1.2) (exOf r1.1) a1 w1 := by
        cases hq : r1.1 with
        | normal => exact absurd hq hn
        | exit i => rfl
        | ret => rfl
      rw [this]
      exact ⟨rfl, P1⟩
  | .cond k x y, an, rb, an', h, s, r, e, μ, lam, a, w, S, hE => by
    simp only [compC] at h
    obtain ⟨k1, h0, h⟩ := Option.bind_eq_some_iff.1 h
    obtain ⟨x1, h1, h⟩ := Option.bind_eq_some_iff.1 h
    obtain ⟨y1, h2, h⟩ := Option.bind_eq_some_iff.1 h
    injection h with h; injection h with h3 h4; subst h3
    simp only [codeF] at e
    split at e
    · rename_i b hb
      have hv : a.eval k = .bool b := evc_R hc S h0 hb
      refine wp_cond hv ?_
      cases b with
      | true => exact code_sound hc hC hL hTC hTL x an x1.1 x1.2 h1 s r e μ lam a w S hE
      | false => exact code_sound hc hC hL hTC hTL y x1.2 y1.1 y1.2 h2 s r e μ lam a w S hE
    · cases e
  | .block id b, an, rb, an', h, s, r, e, μ, lam, a, w, S, hE => by
    simp only [compC] at h
    obtain ⟨x1, h1, h⟩ := Option.bind_eq_some_iff.1 h
    injection h with h; injection h with h3 h4; subst h3
    obtain ⟨r1, e1, e2⟩ := Option.bind_eq_some_iff.1 e
    refine wp_block (wp_mono (code_sound hc hC hL hTC hTL b an x1.1 x1.2 h1 s r1 e1 μ lam a w S hE) ?_)
    rintro ex a1 w1 ⟨rfl, P1⟩
    split at e2
    · rename_i i hn
      rw [hn]
      show (if i = id then _ else _)
      cases hi : (i == id) with
      | true =>
        rw [hi] at e2; injection e2 with e2; subst e2
        rw [if_pos (by simpa using hi)]; exact ⟨rfl, P1⟩
      | false =>
        rw [hi] at e2; injection e2 with e2; subst e2
        rw [if_neg (by simpa using hi)]; exact ⟨rfl, P1⟩
    · rename_i hn
      injection e2 with e2; subst e2
      have : Exit.inBlock id (Out K μ E A nt s w (r1.1, r1.2)) (exOf r1.1) a1 w1 = Out K μ E A nt s w (r1.1, r1.2) (exOf r1.1) a1 w1 := by
        cases hq : r1.1 with
        | normal => rfl
        | exit i => exact absurd hq (hn i)
        | ret => rfl
      rw [this]
      exact ⟨rfl, P1⟩
  | .loop b, an, rb, an', h, s, r, e, μ, lam, a, w, S, hE => by
    simp only [compC] at h
    split at h
    · cases h
    · rename_i live an1
      obtain ⟨x1, h1, h⟩ := Option.bind_eq_some_iff.1 h
      injection h with h; injection h with h3 h4; subst h3
      have := hL esc nt b an1 x1.1 x1.2 h1 live (s.prune live) r e μ lam E A a w (S.prune live) hE
      exact this
  | .rangeFunc _ _ _ _, an, rb, an', h, s, r, e, μ, lam, a, w, S, hE => by simp [compC] at h
  | .scope _, an, rb, an', h, s, r, e, μ, lam, a, w, S, hE => by simp [compC] at h
  | .label _, an, rb, an', h, s, r, e, μ, lam, a, w, S, hE => by simp [compC] at h
  | .goto _, an, rb, an', h, s, r, e, μ, lam, a, w, S, hE => by simp [compC] at h
  | .refuse _, an, rb, an', h, s, r, e, μ, lam, a, w, S, hE => by simp [compC] at h

/-! ### loops -/
theorem loop_sound (hc : CCok K c) {F : Nat → Option RF} {Z : CallF} (hZ : StepC Z) (n : Nat) (hC : ∀ m, m < n → CallSound K (callN F Z m)) (hL : ∀ m, m < n → LoopSound K c (loopN F Z m)) : LoopSound K c (loopN F Z n) := by
  intro esc nt b an rb an' hb live s r e μ lam E A a w S hE
  -- at a round's head, m rounds at most are to come
  let I : Nat → Act → World → Prop := fun m a1 w1 => m ≤ n ∧ ∃ s1 μ1 lam1, loopN F Z m live rb s1 = some r ∧ SE K μ1 lam1 E A nt s1 a1 w1 ∧ ExtN s.hp.next μ μ1 ∧ Fr A w w1 ∧ Step s.hp s1.hp
  refine wp_loop_ghost I n ⟨Nat.le_refl _, s, μ, lam, e, S, ExtN.refl _ _, Fr.refl _ _, Step.refl _⟩ ?_
  rintro m a1 w1 ⟨hm, s1, μ1, lam1, e1, S1, hx1, hF1, T1⟩
  cases m with
  | zero => simp [loopN] at e1
  | succ m =>
    rw [loopN] at e1
    obtain ⟨r1, e2, e3⟩ := Option.bind_eq_some_iff.1 e1
    have hst := fuel_step F Z hZ m
    have T := codeF_step hst.1 hst.2 _ e2 S1.fl.2
    refine wp_mono (code_sound hc (hC m (by omega)) (hL m (by omega)) hst.1 hst.2 b an rb an' hb s1 r1 e2 μ1 lam1 a1 w1 S1 (Nat.le_trans hE hF1.size)) ?_
    rintro ex a2 w2 ⟨rfl, μ2, lam2, S2, hx2, hF2⟩
    split at e3
    · rename_i hn
      rw [hn]
      exact ⟨m, by omega, by omega, r1.2.prune live, μ2, lam2, e3, S2.prune live, hx1.trans hx2 T1.next, hF1.trans hF2, T1.trans T⟩
    · rename_i hn
      injection e3 with e3; subst e3
      have : Exit.then (fun a' w' => ∃ n', n' < m + 1 ∧ I n' a' w') (Out K μ E A nt s w (r1.1, r1.2)) (exOf r1.1) a2 w2 = Out K μ E A nt s w (r1.1, r1.2) (exOf r1.1) a2 w2 := by
        cases hq : r1.1 with
        | normal => exact absurd hq hn
        | exit i => rfl
        | ret => rfl
      rw [this]
      exact ⟨rfl, μ2, lam2, S2, hx1.trans hx2 T1.next, hF1.trans hF2⟩

/-! ### functions -/
theorem lk_number {vs : List V} : ∀ {k t : Nat} {v : V}, lk (number k vs) t = some v → k ≤ t ∧ vs[t - k]? = some v := by
  induction vs with
  | nil => intro k t v h; simp [number, lk] at h
  | cons u vs ih =>
    intro k t v h
    simp only [number, lk] at h
    cases hk : (k == t) with
    | true =>
      rw [hk] at h; injection h with h; subst h
      have : k = t := by simpa using hk
      subst this; exact ⟨Nat.le_refl _, by simp⟩
    | false =>
      rw [hk] at h
      obtain ⟨h1, h2⟩ := ih h
      exact ⟨by omega, by rw [show t - k = (t - (k + 1)) + 1 by omega]; simpa using h2⟩
theorem mapM_run {α β : Type} {P : Program} {w : World} {f : α → Sem β} {R : α → β → Prop} : ∀ (l : List α) (ys : List β), All2 (fun x y => (f x).run P w = .ok y w) l ys → (l.mapM f).run P w = .ok ys w
  | [], [], _ => rfl
  | x :: l, y :: ys, ⟨h1, h2⟩ => by simp [List.mapM_cons, h1, mapM_run (R := R) l ys h2]
def resOp (tmps : Array Value) : ResultVar → Sem Value
  | .tmp t => pure (tmps.getD t undef)
  | .cell b t => do loadVar t (← asAddr (tmps.getD b undef))
theorem res_sound (hc : CCok K c) (S : SE K μ lam E A nt s a w) : ∀ {rs : List ResultVar} {l : List RR} {vs : List V}, compR c rs = some l → resF s l = some vs →
    ∃ us, All2 (fun r u => (resOp a.tmps r).run K.P w = .ok u w) rs us ∧ All2 (V.R1 K μ) vs us
  | [], l, vs, h, e => by injection h with h; subst h; injection e with e; subst e; exact ⟨[], trivial, trivial⟩
  | .tmp t :: rs, l, vs, h, e => by
    simp only [compR] at h
    obtain ⟨l1, h1, h2⟩ := Option.bind_eq_some_iff.1 h
    injection h2 with h2; subst h2
    simp only [resF] at e
    split at e
    · rename_i x hx
      obtain ⟨vs1, e1, e2⟩ := Option.bind_eq_some_iff.1 e
      injection e2 with e2; subst e2
      obtain ⟨us, q1, q2⟩ := res_sound hc S h1 e1
      exact ⟨_ :: us, ⟨rfl, q1⟩, S.env _ _ hx, q2⟩
    · rename_i x hx
      obtain ⟨vs1, e1, e2⟩ := Option.bind_eq_some_iff.1 e
      injection e2 with e2; subst e2
      obtain ⟨us, q1, q2⟩ := res_sound hc S h1 e1
      exact ⟨_ :: us, ⟨rfl, q1⟩, S.env _ _ hx, q2⟩
    · cases e
  | .cell b t :: rs, l, vs, h, e => by
    simp only [compR] at h
    obtain ⟨ti, ht, h⟩ := Option.bind_eq_some_iff.1 h
    obtain ⟨l1, h1, h2⟩ := Option.bind_eq_some_iff.1 h
    injection h2 with h2; subst h2
    simp only [resF] at e
    obtain ⟨v, e1, e2⟩ := Option.bind_eq_some_iff.1 e
    obtain ⟨vs1, e3, e4⟩ := Option.bind_eq_some_iff.1 e2
    injection e4 with e4; subst e4
    obtain ⟨us, q1, q2⟩ := res_sound hc S h1 e3
    split at e1
    · rename_i k off hk
      obtain ⟨cs, f1, f2⟩ := Option.bind_eq_some_iff.1 e1
      obtain ⟨x, f3, f4⟩ := Option.bind_eq_some_iff.1 f2
      obtain ⟨bl, g1, g2⟩ := S.adr' hk
      obtain ⟨b', arr, el, g3, g4, g5⟩ := S.loc' f1
      rw [g1] at g3; injection g3 with g3; subst g3
      obtain ⟨g6, g7⟩ := cells_get g5 f3
      obtain ⟨u, g8, g9⟩ := run_loadAt (TI.ok_of (hc.T _ _ ht)) g4 g6 g7 f4
      refine ⟨u :: us, ⟨?_, q1⟩, ?_, q2⟩
      · simp only [resOp, g2, asAddr]; simp [g8]
      · cases v with
        | tup _ => unfold mkV at f4; split at f4 <;> cases f4
        | _ => exact g9
    · cases e1
end
end Go.Proofs.Ytjpjiiecnffelaa.A
