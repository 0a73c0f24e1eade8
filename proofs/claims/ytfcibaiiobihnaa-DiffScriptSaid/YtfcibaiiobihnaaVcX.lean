/- THE EVALUATOR's STEPS IN THE MACHINE's OWN WORDS, loops by a step function, cuts. -/
import Derived.Test.YtfcibaiiobihnaaVcW
import Derived.Scope
namespace Go.Proofs.Ytfcibaiiobihnaa.Vc
open Go.RowKit
set_option linter.unusedSectionVars false

/-- Code, begun in a state that reads as s, ends as Q asks. -/
def Ev (P : Program) (c : Code) (s : St) (Q : Ex → St → Prop) : Prop :=
  ∀ (A : Nat → Nat → Prop) (L : List Blk) (g0 : Gh) (w0 : World) (g : Gh) (a : Act) (w : World), Rel g w s a → Good A L g0 w0 g w s.H → s.np = L.length → c.wp P (Post A L g0 w0 Q) a w

theorem e_of {P : Program} {T : Types} {Γ : Ctx} (hT : TypesOk P T) (hΓ : CtxOk P Γ) (hm : P.follows .mixedOrders = true) {c : Code} {s : St} {Q : Ex → St → Prop} (h : evC T Γ c s Q) : Ev P c s Q :=
  fun A L g0 w0 g a w hr hg hn => evC_ok hT hΓ hm c s Q g a w h hr hg hn

/-- What the steps need of the program. -/
structure Env (P : Program) (T : Types) (Γ : Ctx) : Prop where
  T : TypesOk P T
  Γ : CtxOk P Γ
  m : P.follows .mixedOrders = true

theorem e_mono {P : Program} {c : Code} {s : St} {Q Q' : Ex → St → Prop} (h : Ev P c s Q') (hq : ∀ e s, Q' e s → ∃ k : Keep, Q e (s.keep k)) : Ev P c s Q := by
  intro A L g0 w0 g a w hr hg hn
  refine wp_mono (h A L g0 w0 g a w hr hg hn) fun x a' w' hp => ?_
  obtain ⟨e, g', s', h1, h2, h3, h4, h5⟩ := hp
  obtain ⟨k, hk⟩ := hq e s' h2
  obtain ⟨g1, k1, k2, k3, _⟩ := keep_ok h3 h4 h5 k
  exact ⟨e, g1, s'.keep k, h1, hk, k1, k2, k3⟩

theorem e_mono0 {P : Program} {c : Code} {s : St} {Q Q' : Ex → St → Prop} (h : Ev P c s Q') (hq : ∀ e s, Q' e s → Q e s) : Ev P c s Q := by
  intro A L g0 w0 g a w hr hg hn
  refine wp_mono (h A L g0 w0 g a w hr hg hn) fun x a' w' hp => ?_
  obtain ⟨e, g', s', h1, h2, h3, h4, h5⟩ := hp
  exact ⟨e, g', s', h1, hq e s' h2, h3, h4, h5⟩

theorem e_keep {P : Program} {c : Code} {s : St} {Q : Ex → St → Prop} (k : Keep) (h : Ev P c (s.keep k) Q) : Ev P c s Q := by
  intro A L g0 w0 g a w hr hg hn
  obtain ⟨g1, k1, k2, k3, _⟩ := keep_ok hr hg hn k
  exact h A L g0 w0 g1 a w k1 k2 k3

section
variable {P : Program} {s : St} {Q : Ex → St → Prop}
theorem e_skip (h : Q .normal s) : Ev P .skip s Q := fun _ _ _ _ g _ _ hr hg hn => wp_skip ⟨.normal, g, s, rfl, h, hr, hg, hn⟩
theorem e_label {l : Nat} (h : Q .normal s) : Ev P (.label l) s Q := fun _ _ _ _ g _ _ hr hg hn => wp_label ⟨.normal, g, s, rfl, h, hr, hg, hn⟩
theorem e_exit {id : Nat} (h : Q (.exit id) s) : Ev P (.exit id) s Q := fun _ _ _ _ g _ _ hr hg hn => wp_exit ⟨.exit id, g, s, rfl, h, hr, hg, hn⟩
theorem e_ret (h : Q .ret s) : Ev P .ret s Q := fun _ _ _ _ g _ _ hr hg hn => wp_ret ⟨.ret, g, s, rfl, h, hr, hg, hn⟩

theorem e_seq {x y : Code} (h : Ev P x s (qSeq (fun s' => Ev P y s' Q) Q)) : Ev P (.seq x y) s Q := by
  intro A L g0 w0 g a w hr hg hn
  refine wp_seq (wp_mono (h A L g0 w0 g a w hr hg hn) fun e a' w' hp => ?_)
  obtain ⟨e', g', s', h1, h2, h3, h4, h5⟩ := hp
  cases e <;> simp only [exOf, Option.some.injEq] at h1
  case normal => subst h1; exact h2 A L g0 w0 g' a' w' h3 h4 h5
  case exit id => subst h1; exact ⟨.exit id, g', s', rfl, h2, h3, h4, h5⟩
  case ret => subst h1; exact ⟨.ret, g', s', rfl, h2, h3, h4, h5⟩
  all_goals cases h1

/-- The ways that meet again are walked once from there on. -/
theorem e_seqcut {x y : Code} (I : St → Prop) (h : Ev P x s (qSeq (fun s' => ∃ k : Keep, I (s'.keep k)) Q)) (J : ∀ s', I s' → Ev P y s' Q) : Ev P (.seq x y) s Q := by
  refine e_seq (e_mono0 h fun e s' hq => ?_)
  cases e with
  | normal => obtain ⟨k, hk⟩ := hq; exact e_keep k (J _ hk)
  | exit j => exact hq
  | ret => exact hq

theorem e_cond {c : Operand} {x y : Code} {b : Bool} {k : Option Nat} (h : opd s.env c = (.val .bool b, k)) (ht : b = true → Ev P x s Q) (hf : b = false → Ev P y s Q) : Ev P (.cond c x y) s Q := by
  intro A L g0 w0 g a w hr hg hn
  have hc := opd_ok hr.env c
  rw [h] at hc
  exact wp_cond_split (RdV_bool hc.1) (fun e => ht e A L g0 w0 g a w hr hg hn) (fun e => hf e A L g0 w0 g a w hr hg hn)

theorem e_condF {c : Operand} {x y : Code} {p q : Prop} {k : Option Nat} (h : opd s.env c = (.flag p q, k)) (ht : p → Ev P x s Q) (hf : q → Ev P y s Q) : Ev P (.cond c x y) s Q := by
  intro A L g0 w0 g a w hr hg hn
  have hc := opd_ok hr.env c
  rw [h] at hc
  obtain ⟨b, hb, hp, hq⟩ := hc.1
  exact wp_cond_split hb (fun e => ht (hp e) A L g0 w0 g a w hr hg hn) (fun e => hf (hq e) A L g0 w0 g a w hr hg hn)

theorem e_scope {c : Code} (h : Ev P c s Q) : Ev P (.scope c) s Q := by
  intro A L g0 w0 g a w hr hg hn
  refine wp_scope_straight (wp_mono (h A L g0 w0 g a w hr hg hn) fun e a' w' hp => ?_)
  obtain ⟨e', g', s', h1, h2, h3, h4, h5⟩ := hp
  cases e <;> simp only [exOf, Option.some.injEq] at h1
  all_goals first | (cases h1; done) | exact ⟨e', g', s', by simp only [exOf]; rw [h1], h2, h3, h4, h5⟩

theorem e_block {id : Nat} {c : Code} (h : Ev P c s (qBlock id Q)) : Ev P (.block id c) s Q := by
  intro A L g0 w0 g a w hr hg hn
  refine wp_block (wp_mono (h A L g0 w0 g a w hr hg hn) fun e a' w' hp => ?_)
  obtain ⟨e', g', s', h1, h2, h3, h4, h5⟩ := hp
  cases e <;> simp only [exOf, Option.some.injEq] at h1
  case normal => subst h1; exact ⟨.normal, g', s', rfl, h2, h3, h4, h5⟩
  case exit j =>
    subst h1
    simp only [qBlock] at h2
    simp only [Exit.inBlock]
    split
    · rename_i hj; rw [if_pos hj] at h2; exact ⟨.normal, g', s', rfl, h2, h3, h4, h5⟩
    · rename_i hj; rw [if_neg hj] at h2; exact ⟨.exit j, g', s', rfl, h2, h3, h4, h5⟩
  case ret => subst h1; exact ⟨.ret, g', s', rfl, h2, h3, h4, h5⟩
  all_goals cases h1
end

/-! ### A row is sealed: it is a list from now on -/
@[go_sem] def sealSlot (k : Nat) (t : Ty) (l : List t.den) : Slot → Slot
  | (.own j m, x) => if j = k then (.val (.list t) l, some k) else (.own j m, x)
  | s => s

@[go_sem] def sealEnv (k : Nat) (t : Ty) (l : List t.den) : List (Nat × Slot) → List (Nat × Slot)
  | [] => []
  | (i, s) :: r => (i, sealSlot k t l s) :: sealEnv k t l r

@[go_sem] def sealOk1 (k n : Nat) : Slot → Prop
  | (.own j m, _) => j = k → m = n
  | _ => True

@[go_sem] def sealOk (k n : Nat) : List (Nat × Slot) → Prop
  | [] => True
  | (_, s) :: r => sealOk1 k n s ∧ sealOk k n r

theorem lk_seal {k : Nat} {t : Ty} {l : List t.den} : ∀ {env : List (Nat × Slot)} {i : Nat}, lk (sealEnv k t l env) i = sealSlot k t l (lk env i)
  | [], i => rfl
  | (j, s) :: r, i => by
    simp only [sealEnv, lk]
    split
    · rfl
    · exact lk_seal

theorem sealOk_lk {k n : Nat} : ∀ {env : List (Nat × Slot)} {i : Nat}, sealOk k n env → sealOk1 k n (lk env i)
  | [], i, _ => trivial
  | (j, s) :: r, i, ⟨h1, h2⟩ => by
    simp only [lk]
    split
    · exact h1
    · exact sealOk_lk h2

theorem e_seal {P : Program} {c : Code} {s : St} {Q : Ex → St → Prop} (k : Nat) {e : TypeId} {t : Ty} {l : List t.den} {n : Nat} (hk : getH s.H k = some (.row e t l n)) (hok : sealOk k n s.env)
    (h : Ev P c ⟨sealEnv k t l s.env, (k, .grow e t.cells (List.length l)) :: s.H, s.nb, s.N, s.np⟩ Q) : Ev P c s Q := by
  intro A L g0 w0 g a w hr hg hn
  obtain ⟨hl, v, xs, hv, hown, hF, hnone, hseal⟩ := hr.heap.blk k _ hk
  let g' : Gh := { g with S := fun b o => g.S b o ∨ (v.ownBlock = some b ∧ o < n * t.cells) }
  have le : Le g w g' w := ⟨fun _ _ h => .inl h, fun _ _ _ => rfl, fun _ _ h => h, fun _ _ _ h => h⟩
  have hown2 : ∀ b, v.ownBlock = some b → ∀ o, owns g k (.row e t l n) b o := fun b hb o => ⟨v, hv, hb⟩
  have hlist : ∀ u, g.cur k n = some u → ((u = .slice none 0 0 ∧ n = 0) ∨ ∃ b cap, u = .slice (some ⟨b, 0, none⟩) n cap ∧ n ≤ cap) → RdV g' w (.list t) l u := by
    intro u hu hshape
    rw [hv] at hu
    obtain rfl := Option.some.inj hu
    rcases hshape with ⟨rfl, h0⟩ | ⟨b, cap, rfl, hcap⟩
    · have : l = [] := List.eq_nil_of_length_eq_zero (by rw [hl, h0])
      subst this
      exact .inr ⟨rfl, none, 0, rfl, Nat.le_refl _, .inl rfl⟩
    · refine .inr ⟨rfl, some ⟨b, 0, none⟩, cap, by rw [hl], by rw [hl]; exact hcap, .inr ⟨b, 0, rfl, RdL_ofF (RdF_mono (fun _ _ h => Rd_mono le h) hF) (fun j u hu => ?_) (fun j hj => ?_)⟩⟩
      · have := hown.cells (g := b) rfl j u hu
        rwa [Addr.add_mid] at this
      · right
        exact ⟨rfl, by rw [hl] at hj; omega⟩
  have hget : ∀ i b, getH ((k, Blk.grow e t.cells (List.length l)) :: s.H) i = some b → (i = k ∧ b = .grow e t.cells (List.length l)) ∨ (i ≠ k ∧ getH s.H i = some b) := by
    intro i b hb
    simp only [getH] at hb
    split at hb
    · rename_i e1; exact .inl ⟨e1.symm, (Option.some.inj hb).symm⟩
    · rename_i e1; exact .inr ⟨Ne.symm e1, hb⟩
  have howns : ∀ i b bb o, getH ((k, Blk.grow e t.cells (List.length l)) :: s.H) i = some b → owns g' i b bb o → ∃ b0, getH s.H i = some b0 ∧ owns g i b0 bb o := by
    intro i b bb o hb ho
    rcases hget i b hb with ⟨rfl, rfl⟩ | ⟨_, h1⟩
    · obtain ⟨u, hu, hub⟩ := ho
      have hu' : g.cur i (List.length l) = some u := hu
      rw [hl] at hu'
      exact ⟨_, hk, u, hu', hub⟩
    · exact ⟨b, h1, (owns_same (g' := g') (g := g) rfl rfl).1 ho⟩
  have hrel : Rel g' w ⟨sealEnv k t l s.env, (k, .grow e t.cells (List.length l)) :: s.H, s.nb, s.N, s.np⟩ a := by
    refine ⟨fun i => ?_, ⟨fun i b hb => ?_, fun i j bi bj b o hij h1 h2 o1 o2 => ?_, fun b o hS => ?_⟩, hr.size, hr.nb, hr.def_, hr.np⟩
    · rw [lk_seal]
      have h1 := hr.env i
      have h2 := sealOk_lk (i := i) hok
      generalize lk s.env i = sl at h1 h2
      obtain ⟨d, x⟩ := sl
      cases d with
      | own j m =>
        simp only [sealSlot]
        split
        · rename_i hj
          subst hj
          have hm : m = n := h2 rfl
          subst hm
          refine ⟨hlist _ h1.1.1 h1.1.2, ?_⟩
          show g'.cur j (List.length l) = _
          rw [hl]
          exact h1.1.1
        · exact RdS_mono le h1
      | _ => exact RdS_mono le h1
    · rcases hget i b hb with ⟨rfl, rfl⟩ | ⟨hne, h1⟩
      · refine ⟨v, xs, by rw [hl]; exact hv, by rw [hl]; exact hown, fun m hm => hnone m (by rw [hl] at hm; exact hm), fun b hb o hS => ?_⟩
        rw [hl]
        rcases hS with hS | hS
        · exact absurd hS (hseal b hb o)
        · exact hS.2
      · exact BlkOk_keep (hr.heap.blk i b h1) le rfl rfl (fun _ _ _ => ⟨rfl, rfl⟩) (fun _ _ => rfl) (fun bb o ho hS => by
          rcases hS with hS | hS
          · exact hS
          · exact absurd (hown2 bb hS.1 o) (fun h5 => hr.heap.dis i k b _ bb o hne h1 hk ho h5))
    · obtain ⟨c1, k1, k2⟩ := howns i bi b o h1 o1
      obtain ⟨c2, k3, k4⟩ := howns j bj b o h2 o2
      exact hr.heap.dis i j c1 c2 b o hij k1 k3 k2 k4
    · rcases hS with hS | hS
      · exact hr.heap.sl b o hS
      · exact block_of_ownsRow hown hS.1
  have hgood : Good A L g0 w0 g' w ((k, .grow e t.cells (List.length l)) :: s.H) := by
    refine ⟨fun b o h0 => ⟨.inl (hg.shut b o h0).1, (hg.shut b o h0).2⟩, ⟨hg.fr.os, hg.fr.tape, hg.fr.output, hg.fr.size, hg.fr.blk, hg.fr.cell, fun b o hS => ?_⟩, fun i b bb o hb ho => ?_, hg.J, hg.live, fun i u y us hi hb => ?_⟩
    · rcases hS with hS | hS
      · exact hg.fr.new b o hS
      · exact .inr (hg.perm k _ b o hk (hown2 b hS.1 o))
    · obtain ⟨c1, k1, k2⟩ := howns i b bb o hb ho
      exact hg.perm i c1 bb o k1 k2
    · rcases hget i _ hb with ⟨_, h1⟩ | ⟨_, h1⟩
      · cases h1
      · exact hg.ty i u y us hi h1
  exact h A L g0 w0 g' a w hrel hgood hn

/-! ### Loops by a step function -/
def iter {σ ρ : Type} (f : σ → Option (σ ⊕ ρ)) : Nat → σ → Option ρ
  | 0, _ => none
  | n + 1, x => match f x with
    | none => none
    | some (.inl y) => iter f n y
    | some (.inr r) => some r

theorem iter_succ {σ ρ : Type} {f : σ → Option (σ ⊕ ρ)} {r : ρ} : ∀ {n : Nat} {x : σ}, iter f n x = some r → iter f (n + 1) x = some r
  | 0, _, h => by cases h
  | n + 1, x, h => by
    unfold iter at h ⊢
    split
    · rename_i e; rw [e] at h; cases h
    · rename_i y e; rw [e] at h; exact iter_succ h
    · rename_i r' e; rw [e] at h; exact h

theorem iter_le {σ ρ : Type} {f : σ → Option (σ ⊕ ρ)} {r : ρ} {n : Nat} {x : σ} (h : iter f n x = some r) : ∀ m, iter f (n + m) x = some r
  | 0 => h
  | m + 1 => iter_succ (iter_le h m)

theorem iter_det {σ ρ : Type} {f : σ → Option (σ ⊕ ρ)} {r r' : ρ} {n m : Nat} {x : σ} (h : iter f n x = some r) (h' : iter f m x = some r') : r = r' := by
  have h1 := iter_le h m
  have h2 := iter_le h' n
  rw [Nat.add_comm] at h2
  exact Option.some.inj (h1.symm.trans h2)

/-- What a loop comes to. -/
noncomputable def loopM {σ ρ : Type} (f : σ → Option (σ ⊕ ρ)) (x : σ) : Option ρ := open Classical in if h : ∃ n r, iter f n x = some r then some (Classical.choose (Classical.choose_spec h)) else none

theorem loopM_of {σ ρ : Type} {f : σ → Option (σ ⊕ ρ)} {x : σ} {r : ρ} {n : Nat} (h : iter f n x = some r) : loopM f x = some r := by
  have hx : ∃ n r, iter f n x = some r := ⟨n, r, h⟩
  unfold loopM
  rw [dif_pos hx, iter_det h (Classical.choose_spec (Classical.choose_spec hx))]

theorem loopM_iter {σ ρ : Type} {f : σ → Option (σ ⊕ ρ)} {x : σ} {r : ρ} (h : loopM f x = some r) : ∃ n, iter f n x = some r := by
  unfold loopM at h
  split at h
  · rename_i hx
    have := Classical.choose_spec (Classical.choose_spec hx)
    rw [Option.some.inj h] at this
    exact ⟨_, this⟩
  · cases h

theorem loopM_next {σ ρ : Type} {f : σ → Option (σ ⊕ ρ)} {x y : σ} (h : f x = some (.inl y)) : loopM f x = loopM f y := by
  cases hy : loopM f y with
  | some r =>
    obtain ⟨n, hn⟩ := loopM_iter hy
    exact loopM_of (n := n + 1) (by unfold iter; rw [h]; exact hn)
  | none =>
    cases hx : loopM f x with
    | none => rfl
    | some r =>
      obtain ⟨n, hn⟩ := loopM_iter hx
      cases n with
      | zero => cases hn
      | succ n =>
        unfold iter at hn
        rw [h] at hn
        rw [loopM_of hn] at hy
        cases hy

theorem loopM_done {σ ρ : Type} {f : σ → Option (σ ⊕ ρ)} {x : σ} {r : ρ} (h : f x = some (.inr r)) : loopM f x = some r := loopM_of (n := 1) (by unfold iter; rw [h])

/-- A loop's result by an invariant and a measure. -/
theorem loopM_inv {σ ρ : Type} {f : σ → Option (σ ⊕ ρ)} (I : σ → Prop) (μ : σ → Nat) (post : ρ → Prop)
    (h : ∀ x, I x → (∃ y, f x = some (.inl y) ∧ I y ∧ μ y < μ x) ∨ (∃ r, f x = some (.inr r) ∧ post r)) : ∀ x, I x → ∃ r, loopM f x = some r ∧ post r := by
  have key : ∀ n x, μ x = n → I x → ∃ r, loopM f x = some r ∧ post r := by
    intro n
    induction n using Nat.strongRecOn with
    | _ n ih =>
      intro x hn hx
      rcases h x hx with ⟨y, h1, h2, h3⟩ | ⟨r, h1, h2⟩
      · obtain ⟨r, hr, hp⟩ := ih (μ y) (by omega) y rfl h2
        exact ⟨r, (loopM_next h1).trans hr, hp⟩
      · exact ⟨r, loopM_done h1, h2⟩
  exact fun x hx => key _ x rfl hx

/-- What is left of a loop after a round that gave w. -/
def Nxt {σ ρ : Type} (f : σ → Option (σ ⊕ ρ)) (y : ρ) (n : Nat) : σ ⊕ ρ → Prop
  | .inl x => iter f n x = some y
  | .inr r => r = y

def qL {σ ρ : Type} (enc : σ → St) (f : σ → Option (σ ⊕ ρ)) (y : ρ) (n : Nat) (Q : Ex → St → Prop) : Ex → St → Prop
  | .normal, s => ∃ (k : Keep) (x : σ), s.keep k = enc x ∧ iter f n x = some y
  | .exit j, s => Q (.exit j) s
  | .ret, s => Q .ret s

theorem e_loop {P : Program} {c : Code} {s : St} {Q : Ex → St → Prop} (I : Nat → St → Prop) (h0 : ∃ (k : Keep) (n : Nat), I n (s.keep k))
    (h : ∀ n s, I n s → Ev P c s (fun e s' => match e with | .normal => ∃ (k : Keep) (m : Nat), m < n ∧ I m (s'.keep k) | e => Q e s')) : Ev P (.loop c) s Q := by
  intro A L g0 w0 g a w hr hg hn
  obtain ⟨k, n0, h0⟩ := h0
  obtain ⟨g1, k1, k2, k3, _⟩ := keep_ok hr hg hn k
  let R : Act → World → Nat → Prop := fun a w n => ∃ g s, I n s ∧ Rel g w s a ∧ Good A L g0 w0 g w s.H ∧ s.np = L.length
  refine wp_loop (fun a w => ∃ n, R a w n) (fun a w => leastOf (R a w)) ⟨_, g1, s.keep k, h0, k1, k2, k3⟩ (fun a w hI => ?_)
  obtain ⟨⟨g2, s2, i1, i3, i4, i5⟩, _⟩ := leastOf_spec hI
  refine wp_mono (h _ s2 i1 A L g0 w0 g2 a w i3 i4 i5) fun e a' w' hp => ?_
  obtain ⟨e', g', s', h1, h2, h3, h4, h5⟩ := hp
  cases e <;> simp only [exOf, Option.some.injEq] at h1
  case normal =>
    subst h1
    obtain ⟨k', m, j1, j2⟩ := h2
    obtain ⟨g3, l1, l2, l3, _⟩ := keep_ok h3 h4 h5 k'
    have hR : R a' w' m := ⟨g3, s'.keep k', j2, l1, l2, l3⟩
    exact ⟨⟨_, hR⟩, Nat.lt_of_le_of_lt ((leastOf_spec ⟨_, hR⟩).2 _ hR) j1⟩
  case exit id => subst h1; exact ⟨.exit id, g', s', rfl, h2, h3, h4, h5⟩
  case ret => subst h1; exact ⟨.ret, g', s', rfl, h2, h3, h4, h5⟩
  all_goals cases h1

theorem e_loopM {P : Program} {c : Code} {s : St} {Q : Ex → St → Prop} {σ ρ : Type} {f : σ → Option (σ ⊕ ρ)} {x0 : σ} {y : ρ} (hy : loopM f x0 = some y) (enc : σ → St) (k : Keep) (h0 : s.keep k = enc x0)
    (round : ∀ x w n, f x = some w → Nxt f y n w → Ev P c (enc x) (qL enc f y n Q)) : Ev P (.loop c) s Q := by
  obtain ⟨n, hn⟩ := loopM_iter hy
  refine e_loop (fun n s => ∃ x, s = enc x ∧ iter f n x = some y) ⟨k, n, x0, h0, hn⟩ fun n s ⟨x, e, hx⟩ => ?_
  subst e
  cases n with
  | zero => cases hx
  | succ n =>
    unfold iter at hx
    refine e_mono0 (Q' := qL enc f y n Q) ?_ (fun e s' hq => ?_)
    · split at hx
      · cases hx
      · rename_i x' e; exact round x _ n e hx
      · rename_i r e; exact round x _ n e (Option.some.inj hx)
    · cases e with
      | normal => obtain ⟨k, x', h1, h2⟩ := hq; exact ⟨k, n, by omega, x', h1, h2⟩
      | exit j => exact hq
      | ret => exact hq

/-! ### Ways out that meet -/
def qX (j : Nat) (X : St → Prop) (Q : Ex → St → Prop) : Ex → St → Prop
  | .normal, s => Q .normal s
  | .exit i, s => if i = j then ∃ k : Keep, X (s.keep k) else Q (.exit i) s
  | .ret, s => Q .ret s

theorem e_cutx {P : Program} {c : Code} {s : St} {Q : Ex → St → Prop} (j : Nat) (X : St → Prop) (h : Ev P c s (qX j X Q)) (J : ∀ s', X s' → Q (.exit j) s') : Ev P c s Q := by
  intro A L g0 w0 g a w hr hg hn
  refine wp_mono (h A L g0 w0 g a w hr hg hn) fun x a' w' hp => ?_
  obtain ⟨e, g', s', h1, h2, h3, h4, h5⟩ := hp
  cases e with
  | normal => exact ⟨.normal, g', s', h1, h2, h3, h4, h5⟩
  | ret => exact ⟨.ret, g', s', h1, h2, h3, h4, h5⟩
  | exit i =>
    have h2 : (if i = j then ∃ k : Keep, X (s'.keep k) else Q (.exit i) s') := h2
    by_cases hij : i = j
    · rw [if_pos hij] at h2
      obtain ⟨k, hk⟩ := h2
      obtain ⟨g1, k1, k2, k3, _⟩ := keep_ok h3 h4 h5 k
      exact ⟨.exit i, g1, s'.keep k, h1, by rw [hij]; exact J _ hk, k1, k2, k3⟩
    · rw [if_neg hij] at h2
      exact ⟨.exit i, g', s', h1, h2, h3, h4, h5⟩

section
variable {Q : Ex → St → Prop} {s : St} {j i : Nat} {X : St → Prop} {σ ρ : Type} {enc : σ → St} {f : σ → Option (σ ⊕ ρ)} {y : ρ} {n : Nat}
theorem q_xn (h : Q .normal s) : qX j X Q .normal s := h
theorem q_xr (h : Q .ret s) : qX j X Q .ret s := h
theorem q_xx (h : ∃ k : Keep, X (s.keep k)) : qX j X Q (.exit j) s := by show (if j = j then _ else _); rw [if_pos rfl]; exact h
theorem q_xo (hne : i ≠ j) (h : Q (.exit i) s) : qX j X Q (.exit i) s := by show (if i = j then _ else _); rw [if_neg hne]; exact h
theorem q_Ln (h : ∃ (k : Keep) (x : σ), s.keep k = enc x ∧ iter f n x = some y) : qL enc f y n Q .normal s := h
theorem q_Lx (h : Q (.exit j) s) : qL enc f y n Q (.exit j) s := h
theorem q_Lr (h : Q .ret s) : qL enc f y n Q .ret s := h
end

/-- The ways that end here and meet. -/
def qN (X : St → Prop) (Q : Ex → St → Prop) : Ex → St → Prop
  | .normal, s => ∃ k : Keep, X (s.keep k)
  | .exit j, s => Q (.exit j) s
  | .ret, s => Q .ret s

theorem e_cutn {P : Program} {c : Code} {s : St} {Q : Ex → St → Prop} (X : St → Prop) (h : Ev P c s (qN X Q)) (J : ∀ s', X s' → Q .normal s') : Ev P c s Q := by
  intro A L g0 w0 g a w hr hg hn
  refine wp_mono (h A L g0 w0 g a w hr hg hn) fun x a' w' hp => ?_
  obtain ⟨e, g', s', h1, h2, h3, h4, h5⟩ := hp
  cases e with
  | exit j => exact ⟨.exit j, g', s', h1, h2, h3, h4, h5⟩
  | ret => exact ⟨.ret, g', s', h1, h2, h3, h4, h5⟩
  | normal =>
    obtain ⟨k, hk⟩ := h2
    obtain ⟨g1, k1, k2, k3, _⟩ := keep_ok h3 h4 h5 k
    exact ⟨.normal, g1, s'.keep k, h1, J _ hk, k1, k2, k3⟩

section
variable {Q : Ex → St → Prop} {s : St} {j : Nat} {X : St → Prop}
theorem q_nn (h : ∃ k : Keep, X (s.keep k)) : qN X Q .normal s := h
theorem q_no (h : Q (.exit j) s) : qN X Q (.exit j) s := h
theorem q_nr (h : Q .ret s) : qN X Q .ret s := h
end

/-! ### The plain side -/
/-- The value of a computation that succeeds. -/
def val {ρ : Type} [Inhabited ρ] (x : Option ρ) : ρ := x.getD default
theorem val_some {ρ : Type} [Inhabited ρ] (x : ρ) : val (some x) = x := rfl
theorem val_eq {ρ : Type} [Inhabited ρ] {x : Option ρ} {y : ρ} (h : x = some y) : val x = y := by rw [h]; rfl
theorem isSome_eq {ρ : Type} {x : Option ρ} {y : ρ} (h : x = some y) : x.isSome = true := by rw [h]; rfl

theorem ite_some {ρ : Type} {c : Prop} [Decidable c] {x : Option ρ} {r : ρ} (h : (if c then x else none) = some r) : c ∧ x = some r := by
  by_cases hc : c
  · rw [if_pos hc] at h; exact ⟨hc, h⟩
  · rw [if_neg hc] at h; cases h
theorem bind_some {σ ρ : Type} {x : Option σ} {k : σ → Option ρ} {r : ρ} (h : x.bind k = some r) : ∃ y, x = some y ∧ k y = some r := by
  cases x with
  | none => cases h
  | some y => exact ⟨y, rfl, h⟩
theorem ite_t {ρ : Type} {b : Bool} {x y : ρ} {r : ρ} (h : (if b = true then x else y) = r) (hb : b = true) : x = r := by rw [if_pos hb] at h; exact h
theorem ite_f {ρ : Type} {b : Bool} {x y : ρ} {r : ρ} (h : (if b = true then x else y) = r) (hb : b = false) : y = r := by rw [hb, if_neg (by decide)] at h; exact h
/-- On the first way on; the others are done. -/
def thn {σ ρ : Type} (x : Option (σ ⊕ ρ)) (k : σ → Option ρ) : Option ρ := x.bind fun y => match y with
  | .inl v => k v
  | .inr r => some r
theorem thn_some {σ ρ : Type} {x : Option (σ ⊕ ρ)} {k : σ → Option ρ} {r : ρ} (h : thn x k = some r) : ∃ y, x = some y ∧ (match y with | .inl v => k v | .inr r => some r) = some r := bind_some h

/-- On with what was reckoned. -/
def bnd {σ ρ : Type} (x : Option σ) (k : σ → Option ρ) : Option ρ := x.bind k
def letT {σ ρ : Type} (x : σ) (k : σ → ρ) : ρ := k x
theorem letT_val {σ ρ : Type} {x : σ} {k : σ → ρ} {r : ρ} (h : letT x k = r) : k x = r := h
theorem letT_eq {σ ρ : Type} {x : σ} {k : σ → ρ} {r : ρ} (h : letT x k = r) : ∃ y, x = y ∧ k y = r := ⟨x, rfl, h⟩
theorem and_l {p q : Bool} (h : (p && q) = true) : p = true := by cases p <;> first | rfl | cases h
theorem beq_selfT {x : Bool} (h : x = true) : (x == true) = true := by rw [h]; rfl
theorem and_t {G x : Bool} (hG : G = true) (h : x = true) : (G && (x == true)) = true := by rw [hG, h]; rfl
theorem and_f {G x : Bool} (hG : G = true) (h : x = false) : (G && (x == false)) = true := by rw [hG, h]; rfl
theorem beq_selfF {x : Bool} (h : x = false) : (x == false) = true := by rw [h]; rfl

/-- How a function must end, by what its plain form gives. -/
theorem con_okE {P : Program} {f : FuncId} {fn : Func} {c : Code} {C : List Slot → List Blk → Option Ret} {ts : List Nat} (hf : P.funcs[f]? = some fn) (hb : fn.body = some c) {N : Nat} (hN : fn.ntmps = N)
    (hcall : ∀ args w, (callFunc f args).run P w = .ok (.enter f args) w) (hres : ∀ tmps w, (results fn tmps).run P w = .ok (resVal (ts.map fun t => tmps.getD t undef)) w)
    (h : ∀ args L r, C args L = some r → (∀ p ∈ r.side, p) → args.length ≤ N ∧ slotsIn (idmL 0 L) args ∧ blksIn (idmL 0 L) L ∧ Ev P c ⟨enumE 0 args, enumH 0 L, lenB L, N, lenB L⟩ (Fin ts r)) : ConOk P f C := by
  subst hN
  refine ⟨hcall, fun g w args vals L r hH ha hC hs => ?_⟩
  obtain ⟨h1, h2, h3, h4⟩ := h args L r hC hs
  obtain ⟨hr, hent⟩ := entry_ok hH ha h2 h3 h1
  have hsub : ∀ b o, ownsAny (keepGh g 0 (idmL 0 L)) (enumH 0 L) b o → ownsAny g (enumH 0 L) b o := fun b o ⟨i, blk, hg, ho⟩ => ⟨i, blk, hg, (hent i blk (by rw [← getH_enum0]; exact hg)).2.2 b o ho⟩
  have hgood : Good (ownsAny (keepGh g 0 (idmL 0 L)) (enumH 0 L)) L (keepGh g 0 (idmL 0 L)) w (keepGh g 0 (idmL 0 L)) w (enumH 0 L) := by
    refine ⟨fun b o h => ⟨h, rfl⟩, Fr.refl _ _ _, fun i blk b o hg ho => .inr ⟨i, blk, hg, ho⟩, fun _ _ _ h => h, fun i hi => ?_, fun i u y us _ hg => ⟨y, us, by rw [← getH_enum0]; exact hg⟩⟩
    have hL : L[i]? = some L[i] := by simp
    obtain ⟨_, hbk, _⟩ := hent i L[i] hL
    have hnd := (blksIn_mem h3 L[i] (List.getElem_mem hi)).2
    generalize L[i] = blk at hbk hnd
    cases blk with
    | cells t x ts => obtain ⟨p, cs, hp, _⟩ := hbk; exact .inl ⟨p, hp⟩
    | grow e c n => obtain ⟨v, xs, hv, _⟩ := hbk; exact .inr ⟨n, v, hv⟩
    | row e t l n => obtain ⟨_, v, xs, hv, _⟩ := hbk; exact .inr ⟨n, v, hv⟩
    | dead => exact absurd rfl hnd
  refine calls_of_wp hf hb (wp_mono (h4 _ _ _ _ _ _ _ hr hgood (lenB_len L)) fun x a' w' hp => ?_)
  obtain ⟨e, g', s', e1, e2, e3, e4, e5⟩ := hp
  have fin : ∀ k : Keep, (s'.keep k).H = enumH 0 r.H → slotsAt (s'.keep k).env ts = r.ret → a'.defers = [] ∧ ∃ v, (results fn a'.tmps).run P w' = .ok v w' ∧ ∃ v' g', Ending.returned v = .returned v' ∧ RetOk g w L r g' w' v' := by
    intro k k1 k2
    obtain ⟨g2, l1, l2, l3, _⟩ := keep_ok e3 e4 e5 k
    rw [k1] at l2
    refine ⟨e3.def_, _, hres _ _, _, g2, rfl, ⟨fun b o hb => l2.shut b o hb, by rw [← k1]; exact l1.heap, ?_, ?_, fun i blk b o hi ho => ?_, fun i t x us hi => ?_, fun i t x us u y vs hi hr => ?_⟩⟩
    · have := slotsAt_ok l1.env ts
      rw [k2] at this
      unfold RetVals
      split
      · rename_i s hs
        rw [hs] at this
        obtain ⟨v, vs', hv, h5, h6⟩ := this
        rw [hv, show vs' = [] from h6]
        exact h5
      · rename_i hne
        refine ⟨_, ?_, this⟩
        unfold resVal
        split
        · rename_i v hv
          exfalso
          rw [hv] at this
          have := (ArgsOk_get this).1
          cases hq : r.ret with
          | nil => rw [hq] at this; simp at this
          | cons s l => cases l with
            | nil => exact hne s hq
            | cons _ _ => rw [hq] at this; simp at this
        · rfl
    · exact ⟨l2.fr.os, l2.fr.tape, l2.fr.output, l2.fr.size, fun b hb hA => l2.fr.blk b hb (fun o ho => hA o (hsub b o ho)), fun b o hb hA => l2.fr.cell b o hb (fun ho => hA (hsub b o ho)), fun b o hS => (l2.fr.new b o hS).imp id (Or.imp id (hsub b o))⟩
    · exact (l2.perm i blk b o (by rw [getH_enum0]; exact hi) ho).imp id (hsub b o)
    · obtain ⟨j1, ⟨p, cs, j2, _⟩, _⟩ := hent i _ hi
      have hil : i < L.length := (List.getElem?_eq_some_iff.1 hi).1
      rw [l2.J i p hil j2, ← j1, j2]
    · have hil : i < L.length := (List.getElem?_eq_some_iff.1 hi).1
      obtain ⟨x', ts', h5⟩ := l2.ty i u y vs hil (by rw [getH_enum0]; exact hr)
      rw [hi] at h5
      simp only [Option.some.injEq, Blk.cells.injEq] at h5
      exact h5.1.symm
  cases x <;> simp only [exOf, Option.some.injEq] at e1
  case normal => subst e1; obtain ⟨k, k1, k2⟩ := e2; exact fin k k1 k2
  case ret => subst e1; obtain ⟨k, k1, k2⟩ := e2; exact fin k k1 k2
  case exit id => subst e1; exact e2.elim
  all_goals cases e1

section
variable {P : Program} {T : Types} {Γ : Ctx} (E : Env P T Γ) {s : St} {Q : Ex → St → Prop}
include E
theorem e_region {id : Nat} {ops : Array Oper} {a : Acc} (h : evOps T Γ ops.toList ops.toList (some ⟨s, [], []⟩) = some a) (hp : conj a.side) (hq : Q .normal a.s) : Ev P (.region id ops false) s Q :=
  e_of E.T E.Γ E.m (ev_region h hp hq)
theorem e_drawn {id : Nat} {ops : Array Oper} {a : Acc} (h : evOps T Γ ops.toList ops.toList (some ⟨s, [], []⟩) = some a) (hf : drawnOk ops s.nb a.es.reverse = true) (hp : conj a.side) (hq : Q .normal a.s) : Ev P (.region id ops true) s Q :=
  e_of E.T E.Γ E.m (ev_drawn h hf hp hq)
end

end Go.Proofs.Ytfcibaiiobihnaa.Vc
