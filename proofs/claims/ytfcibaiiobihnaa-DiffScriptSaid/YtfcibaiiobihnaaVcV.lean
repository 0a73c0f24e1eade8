/- REGIONS in a drawn order: the walk. -/
import Derived.Test.YtfcibaiiobihnaaVcU
namespace Go.Proofs.Ytfcibaiiobihnaa.Vc
open Go.RowKit
set_option linter.unusedSectionVars false

def unl (l : Array Bool) : Nat → Nat
  | 0 => 0
  | k + 1 => unl l k + if l.getD k false = true then 0 else 1

theorem unl_congr {l l' : Array Bool} : ∀ {n : Nat}, (∀ j, j < n → l'.getD j false = l.getD j false) → unl l' n = unl l n
  | 0, _ => rfl
  | n + 1, h => by simp only [unl]; rw [unl_congr (fun j hj => h j (by omega)), h n (by omega)]

theorem unl_zero {l : Array Bool} : ∀ {n : Nat}, unl l n = 0 → ∀ j, j < n → l.getD j false = true
  | n + 1, h, j, hj => by
    simp only [unl] at h
    by_cases hn : l.getD n false = true
    · by_cases hjn : j = n
      · subst hjn; exact hn
      · exact unl_zero (n := n) (by omega) j (by omega)
    · rw [if_neg hn] at h; omega

theorem getD_set {l : Array Bool} {i j : Nat} (hi : i < l.size) : (l.setIfInBounds i true).getD j false = if j = i then true else l.getD j false := by
  by_cases h : j = i
  · subst h
    rw [if_pos rfl, Array.getD_eq_getD_getElem?, Array.getElem?_setIfInBounds_self_of_lt hi]
    rfl
  · rw [if_neg h, Array.getD_eq_getD_getElem?, Array.getElem?_setIfInBounds_ne (Ne.symm h), ← Array.getD_eq_getD_getElem?]

theorem unl_set {l : Array Bool} {i : Nat} (hi : i < l.size) (hf : l.getD i false = false) : ∀ {n : Nat}, i < n → unl (l.setIfInBounds i true) n + 1 = unl l n
  | n + 1, h => by
    simp only [unl]
    by_cases hn : n = i
    · subst hn
      rw [getD_set hi, if_pos rfl, if_pos rfl, hf, unl_congr (l := l) (fun j hj => by rw [getD_set hi, if_neg (by omega)])]
      simp
    · rw [getD_set hi, if_neg hn]
      have := unl_set hi hf (n := n) (by omega)
      omega

theorem exists_min {p : Nat → Bool} : ∀ {n : Nat}, (∃ j, j < n ∧ p j = false) → ∃ j, j < n ∧ p j = false ∧ ∀ k, k < j → p k = true
  | 0, ⟨j, h, _⟩ => by omega
  | n + 1, ⟨j, h, hj⟩ => by
    by_cases hs : ∃ j, j < n ∧ p j = false
    · obtain ⟨k, h1, h2, h3⟩ := exists_min hs
      exact ⟨k, by omega, h2, h3⟩
    · refine ⟨j, h, hj, fun k hk => ?_⟩
      cases hp : p k with
      | true => rfl
      | false => exact absurd ⟨k, by omega, hp⟩ hs

theorem HeapOk.ext {g : Gh} {w : World} {H H' : Heap} (h : HeapOk g w H) (e : ∀ i, getH H' i = getH H i) : HeapOk g w H' :=
  ⟨fun i b hb => h.blk i b (by rw [← e]; exact hb), fun i j bi bj b o hij h1 h2 => h.dis i j bi bj b o hij (by rw [← e]; exact h1) (by rw [← e]; exact h2), h.sl⟩

theorem Good.ext {A : Nat → Nat → Prop} {L : List Blk} {g0 g : Gh} {w0 w : World} {H H' : Heap} (h : Good A L g0 w0 g w H) (e : ∀ i, getH H' i = getH H i) : Good A L g0 w0 g w H' :=
  ⟨h.shut, h.fr, fun i blk b o hb => h.perm i blk b o (by rw [← e]; exact hb), h.J, h.live, fun i u y us hi hb => h.ty i u y us hi (by rw [← e]; exact hb)⟩

theorem le_drawn (g : Gh) (w : World) (d : Nat) : Le g w g { w with drawn := d } := ⟨fun _ _ h => h, fun _ _ _ => rfl, fun _ _ h => h, fun _ _ _ h => h⟩

theorem HeapOk.drawn {g : Gh} {w : World} {H : Heap} (h : HeapOk g w H) (d : Nat) : HeapOk g { w with drawn := d } H :=
  ⟨fun i b hb => BlkOk_keep (h.blk i b hb) (le_drawn g w d) rfl rfl (fun _ _ _ => ⟨rfl, rfl⟩) (fun _ _ => rfl) (fun _ _ _ h => h), h.dis, h.sl⟩

theorem Good.drawn {A : Nat → Nat → Prop} {L : List Blk} {g0 g : Gh} {w0 w : World} {H : Heap} (h : Good A L g0 w0 g w H) (d : Nat) : Good A L g0 w0 g { w with drawn := d } H :=
  ⟨h.shut, ⟨h.fr.os, h.fr.tape, h.fr.output, h.fr.size, h.fr.blk, h.fr.cell, h.fr.new⟩, h.perm, h.J, h.live, h.ty⟩

section
variable {P : Program} {T : Types} {Γ : Ctx} (hT : TypesOk P T) (hΓ : CtxOk P Γ) {A : Nat → Nat → Prop} {L : List Blk} {g0 : Gh} {w0 : World} {Q : Exit → Act → World → Prop}

/-- The state when the listed operations have been done. -/
structure Mid (A : Nat → Nat → Prop) (L : List Blk) (g0 : Gh) (w0 : World) (ops : Array Oper) (es : List Eff) (s : St) (listed : Array Bool) (g : Gh) (w : World) (a : Act) (env : List (Nat × Slot)) (H : Heap) : Prop where
  size : listed.size = ops.size
  closed : Closed ops.toList (fun j => listed.getD j false)
  eok : EnvOk g w env a.tmps
  look : ∀ t, lk env t = lastW (fun j => listed.getD j false) (wrS ops.toList es t) (lk s.env t) ops.size
  heap : HeapOk g w H
  get : ∀ id, getH H id = lastW (fun j => listed.getD j false) (wrH es id) (getH s.H id) ops.size
  tmps : a.tmps.size = s.N
  def_ : a.defers = []
  good : Good A L g0 w0 g w H
  free : ∀ j, j < ops.size → listed.getD j false = false → ∀ id, s.nb + 16 * j ≤ id → id < s.nb + 16 * j + 16 → g.J id = none ∧ ∀ n, g.cur id n = none
  top : ∀ id, s.nb + 16 * ops.size ≤ id → g.J id = none ∧ ∀ n, g.cur id n = none

include hT hΓ

theorem wpAny_ev {ops : Array Oper} {es : List Eff} {s : St} {y : Acc} (run : RunOk T Γ ops.toList ops.toList es s y) (hs : ∀ p ∈ y.side, p) (hchk : drawnOk ops s.nb es = true)
    (hQ : ∀ g a w env H, EnvOk g w env a.tmps → (∀ t, lk env t = lk y.s.env t) → HeapOk g w H → (∀ id, getH H id = getH y.s.H id) → a.tmps.size = s.N → a.defers = [] → Good A L g0 w0 g w H → (∀ id, s.nb + 16 * ops.size ≤ id → g.J id = none ∧ ∀ n, g.cur id n = none) → Q .normal a w) :
    ∀ (fuel : Nat) (listed : Array Bool) (g : Gh) (w : World) (a : Act) (env : List (Nat × Slot)) (H : Heap), unl listed ops.size ≤ fuel → Mid A L g0 w0 ops es s listed g w a env H → wpAny P .any ops Q fuel listed a w := by
  simp only [drawnOk, Bool.and_eq_true] at hchk
  obtain ⟨haf, hfr⟩ := hchk
  have hsz : ops.toList.length = ops.size := Array.length_toList
  have done : ∀ (listed : Array Bool) (g : Gh) (w : World) (a : Act) (env : List (Nat × Slot)) (H : Heap), Mid A L g0 w0 ops es s listed g w a env H → (∀ j, j < ops.size → listed.getD j false = true) → Q .normal a w := by
    intro listed g w a env H m hall
    refine hQ g a w env H m.eok (fun t => ?_) m.heap (fun id => ?_) m.tmps m.def_ m.good m.top
    · rw [m.look t, run.env t, hsz]; exact lastW_congr (fun j hj _ => hall j hj)
    · rw [m.get id, run.heap id, hsz]; exact lastW_congr (fun j hj _ => hall j hj)
  have stuck : ∀ (listed : Array Bool), listed.size = ops.size → Region.ready .any ops listed = [] → ∀ j, j < ops.size → listed.getD j false = true := by
    intro listed hls hr j hj
    cases hp : listed.getD j false with
    | true => rfl
    | false =>
      obtain ⟨k, h1, h2, h3⟩ := exists_min (p := fun j => listed.getD j false) ⟨j, hj, hp⟩
      have : k ∈ Region.ready .any ops listed := by
        rw [mem_ready]
        refine ⟨?_, ops[k], by simp [h1], fun e he hb => ?_⟩
        · have h2 : listed.getD k false = false := h2
          rw [Array.getD_eq_getD_getElem?] at h2 ⊢
          rw [Array.getElem?_eq_getElem (by omega)] at h2 ⊢
          exact h2
        · have := afterLt_spec haf k ops[k] (by simp [h1]) e he hb
          exact h3 e.on (by omega)
      rw [hr] at this; cases this
  intro fuel
  induction fuel with
  | zero =>
    intro listed g w a env H hu m
    have hall := unl_zero (l := listed) (n := ops.size) (by omega)
    refine ⟨?_, done listed g w a env H m hall⟩
    cases hr : Region.ready .any ops listed with
    | nil => rfl
    | cons i r =>
      have : i ∈ Region.ready .any ops listed := by rw [hr]; simp
      obtain ⟨h0, o, ho, _⟩ := mem_ready.1 this
      have hi : i < ops.size := (Array.getElem?_eq_some_iff.1 ho).1
      have := hall i hi
      rw [Array.getD_eq_getD_getElem?] at this h0
      rw [Array.getElem?_eq_getElem (by rw [m.size]; exact hi)] at this h0
      simp at this h0
      rw [this] at h0; cases h0
  | succ fuel ih =>
    intro listed g w a env H hu m
    refine ⟨fun hr => done listed g w a env H m (stuck listed m.size hr), fun i hi => ?_⟩
    obtain ⟨h0, o, ho, hall⟩ := mem_ready.1 hi
    have hin : i < ops.size := (Array.getElem?_eq_some_iff.1 ho).1
    have hil : i < listed.size := by rw [m.size]; exact hin
    have hpi : listed.getD i false = false := by
      rw [Array.getD_eq_getD_getElem?] at h0 ⊢
      rw [Array.getElem?_eq_getElem hil] at h0 ⊢
      exact h0
    have hoL : ops.toList[i]? = some o := by simpa using ho
    obtain ⟨e, he⟩ : ∃ e, es[i]? = some e := ⟨es[i]'(by rw [run.len, hsz]; exact hin), by simp⟩
    obtain ⟨sk, st⟩ := run.step i o e hoL he
    -- the listed operations with i are closed
    have hcl' : Closed ops.toList (fun j => (listed.setIfInBounds i true).getD j false) := by
      intro j o' ho' hj ed hed hb
      simp only [getD_set hil] at hj ⊢
      by_cases hji : j = i
      · subst hji
        rw [hoL] at ho'
        obtain rfl := Option.some.inj ho'
        have := hall ed hed hb
        split
        · rfl
        · exact this
      · rw [if_neg hji] at hj
        have := m.closed j o' ho' hj ed hed hb
        split
        · rfl
        · exact this
    have hbef : ∀ j, ((Region.before ops).toList.getD i 0).testBit j = true → j ≠ i → listed.getD j false = true := by
      intro j hj hne
      have := before_spec hcl' hj (by simp only [getD_set hil]; simp)
      simp only [getD_set hil, if_neg hne] at this
      exact this
    have haft : ∀ j, ((Region.before ops).toList.getD j 0).testBit i = true → listed.getD j false = true → False := by
      intro j hj hl
      have := before_spec m.closed hj hl
      rw [hpi] at this; cases this
    -- pairs
    have pairLt : ∀ j p f, j < i → ops.toList[j]? = some p → es[j]? = some f → listed.getD j false = true ∨ (p.apart ops o = true ∧ apartE f e = true ∧ noneIn (s.nb + 16 * j) e.upd = true) := by
      intro j p f hji hp hf
      rcases freeAll_spec hfr j i p f o e hji hp hf hoL he with h1 | h1
      · rw [Nat.zero_add, Nat.zero_add] at h1
        exact .inl (hbef j h1 (by omega))
      · rw [Nat.zero_add] at h1; exact .inr h1
    have pairGt : ∀ j p f, i < j → ops.toList[j]? = some p → es[j]? = some f → listed.getD j false = true → o.apart ops p = true ∧ apartE e f = true := by
      intro j p f hij hp hf hl
      rcases freeAll_spec hfr i j o e p f hij hoL he hp hf with h1 | h1
      · rw [Nat.zero_add, Nat.zero_add] at h1
        exact (haft j h1 hl).elim
      · exact ⟨h1.1, h1.2.1⟩
    have same : ∀ {α : Type} (wr : Nat → Option α) (b : α), (∀ j p f, j < i → ops.toList[j]? = some p → es[j]? = some f → wr j ≠ none → p.apart ops o = true → apartE f e = true → False) →
        (∀ j p f, i < j → ops.toList[j]? = some p → es[j]? = some f → wr j ≠ none → o.apart ops p = true → apartE e f = true → False) → (∀ j, wr j ≠ none → ∃ f, es[j]? = some f) →
        lastW (fun j => listed.getD j false) wr b ops.size = lastW (fun _ => true) wr b i := by
      intro α wr b hlt hgt hex
      rw [← lastW_upto (n := ops.size) (by omega)]
      refine lastW_congr (fun j hj hw => ?_)
      obtain ⟨f, hf⟩ := hex j hw
      have hpj : ops.toList[j]? = some ops[j] := by simp [hj]
      rcases Nat.lt_trichotomy j i with h1 | h1 | h1
      · rw [decide_eq_true h1]
        rcases pairLt j _ f h1 hpj hf with h2 | h2
        · exact h2
        · exact (hlt j _ f h1 hpj hf hw h2.1 h2.2.1).elim
      · subst h1; simp [hpi]
      · have : ¬ j < i := by omega
        rw [decide_eq_false this]
        cases hl : listed.getD j false with
        | false => rfl
        | true =>
          obtain ⟨h2, h3⟩ := pairGt j _ f h1 hpj hf hl
          exact (hgt j _ f h1 hpj hf hw h2 h3).elim
    have exS : ∀ t j, wrS ops.toList es t j ≠ none → ∃ f, es[j]? = some f := by
      intro t j h
      unfold wrS at h
      cases hf : es[j]? with
      | none => rw [hf] at h; exact absurd (by split <;> first | rfl | (rename_i h1; cases h1)) h
      | some f => exact ⟨f, rfl⟩
    have exH : ∀ t j, wrH es t j ≠ none → ∃ f, es[j]? = some f := by
      intro t j h
      unfold wrH at h
      cases hf : es[j]? with
      | none => rw [hf] at h; exact absurd rfl h
      | some f => exact ⟨f, rfl⟩
    have dS : ∀ t j p f, ops.toList[j]? = some p → es[j]? = some f → wrS ops.toList es t j ≠ none → p.dst = some t := by
      intro t j p f hp hf h
      unfold wrS at h
      rw [hp, hf] at h
      simp only at h
      split at h
      · assumption
      · exact absurd rfl h
    have dH : ∀ id j f, es[j]? = some f → wrH es id j ≠ none → id ∈ idsOf f.upd := by
      intro id j f hf h
      unfold wrH at h
      rw [hf] at h
      simp only at h
      split at h
      · assumption
      · exact absurd rfl h
    have hev : evOp T Γ ops.toList o ⟨env, H, s.nb + 16 * i, s.N, s.np⟩ = some e := by
      refine evOp_look st.ev (fun t ht => ?_) (fun id hid => ?_) st.nb.symm
      · show lk env t = _
        rw [m.look t, st.env t]
        refine same _ _ (fun j p f _ hp hf hw ha _ => ?_) (fun j p f _ hp hf hw ha _ => ?_) (exS t)
        · exact (Oper.apart_spec ha).1 t (dS t j p f hp hf hw) ht
        · exact (Oper.apart_spec ha).2.2 t (dS t j p f hp hf hw) ht
      · show getH H id = _
        rw [m.get id, st.heap id]
        refine same _ _ (fun j p f _ hp hf hw _ ha => ?_) (fun j p f _ hp hf hw _ ha => ?_) (exH id)
        · exact ((apartE_spec ha).1 id (dH id j f hf hw)).1 hid
        · exact (apartE_spec ha).2 id (dH id j f hf hw) hid
    have hfresh : Fresh g (s.nb + 16 * i) e := fun id hid hle => m.free i hin hpi id hle (idsLt_mem st.ids hid)
    have key := evOp_ok hT hΓ (ops := ops.toList) (o := o) (a := a) (s := ⟨env, H, s.nb + 16 * i, s.N, s.np⟩) (K := wpAny P .any ops Q fuel (listed.setIfInBounds i true)) (Q := Q) m.eok m.heap hev (fun p hp => hs p (st.side p hp)) hfresh (fun g' w' v k => by
      refine ih (listed.setIfInBounds i true) g' w' (a.put o.dst v) (put o.dst e.slot env) (app e.upd H) ?_ ⟨by rw [Array.size_setIfInBounds]; exact m.size, hcl', put_env m.eok k.le k.slot m.tmps st.dst, fun t => ?_, k.heap, fun id => ?_, (put_size _ _ _).trans m.tmps, (put_def _ _ _).trans m.def_, m.good.eff k, fun j hj hjp id h1 h2 => ?_, fun id hid => ?_⟩
      · have := unl_set hil hpi hin; omega
      · rw [lk_put, lastW_set (p := fun j => listed.getD j false) (i := i) hpi (fun j => by simp only [getD_set hil]) hin (fun j hij hj hl => ?_), ← m.look t]
        · unfold wrS
          rw [hoL, he]
          simp only
          split <;> rfl
        · have hpj : ops.toList[j]? = some ops[j] := by simp [hj]
          obtain ⟨f, hf⟩ : ∃ f, es[j]? = some f := ⟨es[j]'(by rw [run.len, hsz]; exact hj), by simp⟩
          obtain ⟨h3, _⟩ := pairGt j _ f hij hpj hf hl
          by_cases hw : wrS ops.toList es t j = none
          · exact .inl hw
          · right
            have hd := dS t j _ f hpj hf hw
            by_cases hwi : wrS ops.toList es t i = none
            · exact hwi
            · have hdi := dS t i _ e hoL he hwi
              exact absurd hd ((Oper.apart_spec h3).2.1 t hdi)
      · rw [getH_app2, lastW_set (p := fun j => listed.getD j false) (i := i) hpi (fun j => by simp only [getD_set hil]) hin (fun j hij hj hl => ?_), ← m.get id]
        · unfold wrH
          rw [he]
          simp only
          split <;> rfl
        · have hpj : ops.toList[j]? = some ops[j] := by simp [hj]
          obtain ⟨f, hf⟩ : ∃ f, es[j]? = some f := ⟨es[j]'(by rw [run.len, hsz]; exact hj), by simp⟩
          obtain ⟨_, h3⟩ := pairGt j _ f hij hpj hf hl
          by_cases hw : wrH es id j = none
          · exact .inl hw
          · right
            have hd := dH id j f hf hw
            by_cases hwi : wrH es id i = none
            · exact hwi
            · have hdi := dH id i e he hwi
              exact absurd hd ((apartE_spec h3).1 id hdi).2
      · rw [getD_set hil] at hjp
        have hji : j ≠ i := fun h => by rw [if_pos h] at hjp; cases hjp
        rw [if_neg hji] at hjp
        have hnot : id ∉ idsOf e.upd := by
          intro hm
          have hlt := idsLt_mem st.ids hm
          rcases Nat.lt_or_gt_of_ne hji with h3 | h3
          · obtain ⟨f, hf⟩ : ∃ f, es[j]? = some f := ⟨es[j]'(by rw [run.len, hsz]; exact hj), by simp⟩
            rcases pairLt j ops[j] f h3 (by simp [hj]) hf with h4 | h4
            · rw [hjp] at h4; cases h4
            · have := noneIn_spec h4.2.2 id hm
              omega
          · omega
        have hg := k.gho id hnot
        have hb := m.free j hj hjp id h1 h2
        exact ⟨hg.1.trans hb.1, fun n => by rw [hg.2]; exact hb.2 n⟩
      · have hnot : id ∉ idsOf e.upd := fun hm => by have := idsLt_mem st.ids hm; omega
        have hg := k.gho id hnot
        have hb := m.top id hid
        exact ⟨hg.1.trans hb.1, fun n => by rw [hg.2]; exact hb.2 n⟩)
    unfold wpOp
    rw [ho]
    simp only [Array.toArray_toList] at key ⊢
    split at key
    · rename_i hw; rw [if_pos hw]; exact .inl key
    · rename_i hw; rw [if_neg hw]; exact key

theorem drawn_ev (hm : P.follows .mixedOrders = true) {id : Nat} {ops : Array Oper} {s : St} {y : Acc} {a : Act} {w : World} {g : Gh} (h : evOps T Γ ops.toList ops.toList (some ⟨s, [], []⟩) = some y) (hchk : drawnOk ops s.nb y.es.reverse = true) (hs : ∀ p ∈ y.side, p) (hr : Rel g w s a) (hg : Good A L g0 w0 g w s.H)
    (hQ : ∀ g' a' w', Rel g' w' y.s a' → Good A L g0 w0 g' w' y.s.H → Q .normal a' w') : (Code.region id ops true).wp P Q a w := by
  obtain ⟨es, h1, run⟩ := run_ok h
  have hes : y.es.reverse = es := by rw [h1]; simp
  simp only at run
  rw [hes] at hchk
  have hsd := evOps_side h
  have hrep : ∀ j, (Array.replicate ops.size false).getD j false = false := by
    intro j
    rw [Array.getD_eq_getD_getElem?, Array.getElem?_replicate]
    split <;> rfl
  have none : ∀ {α : Type} (wr : Nat → Option α) (b : α) n, lastW (fun j => (Array.replicate ops.size false).getD j false) wr b n = b := by
    intro α wr b n
    induction n with
    | zero => rfl
    | succ n ih => simp only [lastW]; rw [if_neg (by rw [hrep]; simp)]; exact ih
  have hsz : ops.toList.length = ops.size := Array.length_toList
  refine wp_region_any hm (wpAny_ev hT hΓ run hs hchk (fun g' a' w' env H he hl hh hgt hz hd hgd htop => ?_) _ _ g _ a s.env s.H ?_ ⟨by simp, fun j o ho hj => ?_, fun t => RdS_mono (le_drawn g w _) (hr.env t), fun t => ?_, hr.heap.drawn _, fun id => ?_, hr.size, hr.def_, hg.drawn _, fun j _ _ id h1 _ => hr.nb id (by omega), fun id h1 => hr.nb id (by omega)⟩)
  · refine hQ g' a' w' ⟨fun t => by rw [← hl t]; exact he t, hh.ext (fun i => (hgt i).symm), by rw [hsd.2.1]; exact hz, fun i hi => htop i ?_, hd, ?_⟩ (hgd.ext (fun i => (hgt i).symm))
    · rw [run.nb, hsz] at hi; exact hi
    · rw [hsd.2.2, run.nb]; exact Nat.le_trans hr.np (Nat.le_add_right _ _)
  · have : ∀ n (l : Array Bool), unl l n ≤ n := by
      intro n l
      induction n with
      | zero => exact Nat.le_refl _
      | succ n ih => simp only [unl]; split <;> omega
    exact this _ _
  · simp only [hrep] at hj; cases hj
  · rw [none]
  · exact (none _ _ _).symm

end

end Go.Proofs.Ytfcibaiiobihnaa.Vc
