/- BYTES AND STRINGS: conversions, appending a string's bytes. -/
import Derived.Test.YtfcibaiiobihnaaVcT
import Derived.Laws.BytesArg
import Derived.Lib.AppendStr
namespace Go.Proofs.Ytfcibaiiobihnaa.Vc
open Go.RowKit
set_option linter.unusedSectionVars false

theorem strCells_eq (s : List UInt8) : Lib.strCells ⟨s.toArray⟩ = s.map fun b => Value.int .u8 b.toNat := by
  simp [Lib.strCells]

/-- Appending a string's bytes; the elements that were there stay. -/
theorem run_append_str_k {P : Program} (w : World) (t u ty e : TypeId) (i : TypeInfo) (ht : P.underlying t = some (.slice e)) (hu : P.underlying u = some .string) (hi : P.info? e = some i) (hz : i.zero = some (.int .u8 0))
    (hsize : i.size = 1) (hby : i.bytes = 1) (v : Value) (n : Nat) (xs : List Value) (hown : w.ownsRow 0 e 1 v n xs) (s : ByteArray) (hm : 0 < s.size)
    (h63 : n + s.size ≤ maxLen) (hbytes : n + s.size ≤ 140737488355328) :
    ∃ q cap w', (Builtin.append_ #[t, u] ty #[v, .string s]).run P w = .ok (.slice (some ⟨q, 0, none⟩) (n + s.size) cap) w' ∧ w'.ownsRow 0 e 1 (.slice (some ⟨q, 0, none⟩) (n + s.size) cap) (n + s.size) (xs ++ Lib.strCells s) ∧
      (q = w.heap.size ∨ v.ownBlock = some q) ∧ w.grownBy w' v.ownBlock ∧ n + s.size ≤ cap ∧
      ∀ b o, b < w.heap.size → (v.ownBlock = some b → o < n * 1) → w'.cell? ⟨b, o, none⟩ = w.cell? ⟨b, o, none⟩ := by
  have hsmall : n + s.size ≤ 9223372036854775807 := by simp only [maxLen] at h63; omega
  have hxl : xs.length = n := by simpa using hown.1
  have hlen : (xs ++ Lib.strCells s).length = (n + s.size) * 1 := by rw [List.length_append, hxl, Lib.strCells_length, Nat.mul_one]
  have grown : ∀ (old : Nat), old < n + s.size → ∀ (row : Option Nat),
      (w.drew.alloc (.cells (xs.toArray ++ (Lib.strCells s).toArray ++ Builtin.zeroCells (Value.int .u8 0).cells (grownCap w (n + s.size) old e - (n + s.size))) e)).ownsRow 0 e 1
        (.slice (some ⟨w.heap.size, 0, none⟩) (n + s.size) (grownCap w (n + s.size) old e)) (n + s.size) (xs ++ Lib.strCells s) ∧
      w.grownBy (w.drew.alloc (.cells (xs.toArray ++ (Lib.strCells s).toArray ++ Builtin.zeroCells (Value.int .u8 0).cells (grownCap w (n + s.size) old e - (n + s.size))) e)) row ∧ n + s.size ≤ grownCap w (n + s.size) old e ∧
      ∀ b o, b < w.heap.size → (w.drew.alloc (.cells (xs.toArray ++ (Lib.strCells s).toArray ++ Builtin.zeroCells (Value.int .u8 0).cells (grownCap w (n + s.size) old e - (n + s.size))) e)).cell? ⟨b, o, none⟩ = w.cell? ⟨b, o, none⟩ := by
    intro old ho row
    have hge := grownCap_ge w (n + s.size) old e
    have hcm : grownCap w (n + s.size) old e ≤ maxLen := grownCap_le_maxLen w (n + s.size) old e h63
    refine ⟨⟨hlen, .inr ⟨w.heap.size, _, _, rfl, Nat.zero_le _, heap_alloc_new w.drew _, hge, hcm, ?_, ?_⟩⟩, ⟨rfl, rfl, rfl, by simp, fun k hk _ => Below.heap_alloc w.drew _ k hk⟩, hge, fun b o hb => World.cell?_of_block (w := w) (a := ⟨b, o, none⟩) (Below.heap_alloc w.drew _ b hb)⟩
    · have hz1 : (Value.int IntKind.u8 0).cells.size = 1 := rfl
      simp only [Array.size_append, List.size_toArray, size_zeroCells, hz1, hxl, Lib.strCells_length]
      omega
    · simp only [Array.toList_append, List.append_assoc]
      rw [← List.append_assoc, ← hlen]
      exact List.take_left
  rcases hown.2 with ⟨rfl, rfl⟩ | ⟨g, cap, cur, rfl, hbg, hg, hnc, hcm, hcs, htake⟩
  · have hx : xs = [] := List.eq_nil_of_length_eq_zero hxl
    subst hx
    have hr := run_append_nil_string (P := P) w t u ty e i (.int .u8 0) ht hu hi hz s (by omega) (by omega) (by rw [hby]; omega)
    have hgr := grown 0 (by omega) (Value.ownBlock (.slice none 0 0))
    simp only [Nat.zero_add, List.nil_append, Array.empty_append] at hgr ⊢
    have e1 : (s.data.map fun b => Value.int .u8 b.toNat) = (Lib.strCells s).toArray := by
      apply Array.ext'
      simp [Lib.strCells]
    rw [e1] at hr
    exact ⟨_, _, _, hr, hgr.1, .inl rfl, hgr.2.1, hgr.2.2.1, fun b o hb _ => hgr.2.2.2 b o hb⟩
  · by_cases hroom : n + s.size ≤ cap
    · have hcs' : cur.size = cap := by simpa using hcs
      have hr := Lib.run_append_room_string (P := P) w t u ty e i ht hu hi hsize g n cap cur hg s hroom (by omega)
      refine ⟨_, _, _, hr, ⟨hlen, .inr ⟨g, cap, _, rfl, hbg, setRow_heap w g cur _ e _ hg, hroom, hcm, ?_, ?_⟩⟩, .inr rfl, ⟨rfl, rfl, rfl, by simp, fun k _ hk => setRow_other w g k _ (fun e => hk (by simp [Value.ownBlock, e]))⟩, hroom, fun b o hb hso => ?_⟩
      · simp only [List.size_toArray, List.length_append, List.length_take, List.length_drop, Array.length_toList, Lib.strCells_length]
        omega
      · have ht' : cur.toList.take n = xs := by simpa using htake
        rw [ht', ← hlen]
        exact List.take_left
      · by_cases hbg' : b = g
        · subst hbg'
          have ho := hso rfl
          rw [cell_setRow_same w b o cur _ e _ hg, cell_of_row w b o cur e (0, 0) hg]
          have hlt : o < (cur.toList.take n).length := by rw [List.length_take, Array.length_toList]; omega
          have hlt2 : o < cur.size := by rw [List.length_take, Array.length_toList] at hlt; omega
          simp only [List.getElem?_toArray, List.append_assoc]
          rw [List.getElem?_append_left hlt, List.getElem?_take, if_pos (by omega)]
          simp
        · exact World.cell?_of_block (a := ⟨b, o, none⟩) (setRow_other w g b _ hbg')
    · have holds : ∀ j u, xs[j]? = some u → w.cell? ((⟨g, 0, none⟩ : Addr).add j) = some u := hown.cells (g := g) rfl
      have hr := Lib.run_append_grow_string (P := P) w t u ty e i (.int .u8 0) ht hu hi hz ⟨g, 0, none⟩ n cap xs (by rw [hsize]; simpa using hxl) holds s (by omega) (by omega) (by rw [hby]; exact growslice_fits (by omega) (by omega))
      have hgr := grown cap (by omega) (Value.ownBlock (.slice (some ⟨g, 0, none⟩) n cap))
      exact ⟨_, _, _, hr, hgr.1, .inl rfl, hgr.2.1, hgr.2.2.1, fun b o hb _ => hgr.2.2.2 b o hb⟩

theorem run_append_str_none {P : Program} (w : World) (t u ty e : TypeId) (i : TypeInfo) (ht : P.underlying t = some (.slice e)) (hu : P.underlying u = some .string) (hi : P.info? e = some i) (hsize : i.size = 1) (ad : Option Addr) (n c : Nat) (hle : n ≤ c) :
    (Builtin.append_ #[t, u] ty #[.slice ad n c, .string ⟨#[]⟩]).run P w = .ok (.slice ad n c) w := by
  have hf := Lib.run_firstCells_string (P := P) w 1 ⟨#[]⟩
  have hm : (⟨#[]⟩ : ByteArray).size = 0 := rfl
  rw [hm] at hf
  cases ad <;> simp [Builtin.append_, run_underlying ht, run_underlying hu, sizeOf, typeInfo, hi, hsize, Builtin.lenOf, hm, hf, hle, Lib.strCells, storeCells]

theorem strBytes_RdF (g : Gh) (w : World) : ∀ s : List UInt8, RdF (Rd g w (.int .u8)) 1 (strBytes s) (s.map fun b => Value.int .u8 b.toNat)
  | [] => rfl
  | b :: s => ⟨[.int .u8 b.toNat], _, rfl, rfl, rfl, strBytes_RdF g w s⟩

section
variable {P : Program} {o : Oper} {a : Act} {g : Gh} {w : World} {H : Heap} {T : Types} (hT : TypesOk P T) (hH : HeapOk g w H)
include hT hH

theorem convB_run {t t' : TypeId} {x : Operand} (ho : o.op = .convert t t' x) {sx : Slot} (hx : RdS g w sx (a.eval x)) {e : Eff}
    (hr : optE (convB T (tyOf T t) (tyOf T t') sx) = some e) : OpOk P o a g w H e := by
  obtain ⟨q, hq, rfl⟩ := optE_some hr
  replace hx := hx.1
  generalize h1 : tyOf T t = o1 at hq
  generalize h2 : tyOf T t' = o2 at hq
  unfold convB at hq
  split at hq
  · rename_i e b1 a1 e2 b2 a2 l k
    generalize h3 : tyOf T e = o3 at hq
    unfold convB2 at hq
    split at hq
    · cases hq
      have d1 := (tyOf_ok hT h1).2
      have d2 := (tyOf_ok hT h2).2
      have d3 := (tyOf_ok hT h3).2
      simp only [descEq] at d1 d2 d3
      obtain ⟨ad, cap, hv, hle, hl⟩ := RdV_list hx
      refine OpOk.pure hH (v := .string ⟨(bytesStr l).toArray⟩) ?_ (mk_str _ _ _)
      simp only [execOp, ho, hv, Sem.run_bind]
      have run : (convert t t' (.slice ad (List.length l) cap)).run P w = .ok (.string ⟨(bytesStr l).toArray⟩) w := by
        rcases hl with rfl | ⟨b, off, rfl, hL⟩
        · rw [run_convert_bytes_string w t t' e ad _ cap d1.1 d3 d2]
          cases ad with
          | none => simp [Conv.bytesToString, bytesStr]; rfl
          | some ad => simp [Conv.bytesToString, loadCells, loadCellsFrom, bytesStr]; rfl
        · have := run_convert_bytes_arg (P := P) w t e d1.1 d3 b off (List.length l) cap l rfl (fun i hi => by
            obtain ⟨cs, _, c2, _, c4⟩ := RdL_get hL (List.getElem?_eq_getElem hi)
            have c5 : cs = [.int .u8 (l[i] : Int)] := c4
            subst c5
            have := c2 0 _ rfl
            have hcell : Ty.cells (.int .u8) = 1 := rfl
            rw [hcell, Nat.mul_one, Nat.add_zero] at this
            rw [this, List.getD_eq_getElem?_getD, List.getElem?_eq_getElem hi]
            rfl) t' d2
          exact this
      rw [run]
      rfl
    · cases hq
  · cases hq

theorem appT_run {args : Array Operand} {tys : Array TypeId} (ho : o.op = .call ⟨.builtin .append, args, tys⟩) {ρ : Operand → Slot} (hρ : ∀ x ∈ args.toList, RdS g w (ρ x) (a.eval x)) {e : Eff}
    (hr : appT T H (opSlots ρ args.toList) tys.toList = some e) (hs : ∀ p ∈ e.side, p) : OpOk P o a g w H e := by
  unfold appT at hr
  split at hr
  · rename_i t u htu
    have htys : tys = #[t, u] := by apply Array.toList_inj.1; rw [htu]
    split at hr
    · rename_i e1
      subst e1
      exact appendE_run hT hH ho hρ htys hr hs
    · clear htu
      subst htys
      generalize hst : tyOf T t = ot at hr
      generalize hsu : tyOf T u = ou at hr
      generalize hss : opSlots ρ args.toList = ss at hr
      unfold appendS at hr
      split at hr
      · rename_i el ar e2 b2 a2 l k s k2
        generalize hk : getH H k = ob at hr
        unfold appendSB at hr
        split at hr
        · rename_i e' c n
          split at hr
          · rename_i hec
            obtain ⟨rfl, rfl⟩ := hec
            cases hr
            rw [List.length_append]
            have hsl : List.length (strBytes s) = List.length s := by simp [strBytes]
            rw [hsl]
            have hln := hs _ (by simp : (List.length l = n) ∈ _)
            have hby := hs _ (by simp : (List.length l + List.length s ≤ 140737488355328) ∈ _)
            obtain ⟨v, vr, hv, hs1, hs2⟩ := two_args hT hH hρ hss
            obtain ⟨h2, h3, _⟩ := (tyOf_ok hT hst).2
            have hu := (tyOf_ok hT hsu).2
            simp only [descEq] at hu
            obtain ⟨ei, hei, hz⟩ := Option.map_eq_some_iff.1 h3
            simp only [Prod.mk.injEq] at hz
            obtain ⟨cs, hx⟩ := exec_builtin (a := a) hT hH ho
            obtain ⟨v0, xs, hv0, hown, hnone, hseal⟩ := hH.blk k _ hk
            have hcur : g.cur k (List.length l) = some v := hs1.2
            rw [hln, hv0] at hcur
            obtain rfl := Option.some.inj hcur
            obtain ⟨adl, capl, hvl, hlel, hll⟩ := RdV_list hs1.1
            have hvr := RdV_str hs2.1
            have hsz : (⟨List.toArray s⟩ : ByteArray).size = List.length s := by simp [ByteArray.size]
            by_cases hm : List.length s = 0
            · obtain rfl : s = [] := List.eq_nil_of_length_eq_zero hm
              have hget : ∀ i, getH (app [(k, Blk.grow e' 1 (List.length l + List.length ([] : List UInt8)))] H) i = getH H i := by
                intro i
                simp only [app, getH]
                by_cases hi : k = i
                · subst hi; rw [if_pos rfl, hk, hln]; rfl
                · rw [if_neg hi]
              have hkeep : EffOk g w H ⟨[List.length l = n, List.length l + List.length ([] : List UInt8) ≤ 140737488355328], (.val (.list (.int .u8)) (l ++ strBytes []), some k), [(k, .grow e' 1 (List.length l + List.length ([] : List UInt8)))], [k]⟩ g w v0 := by
                refine ⟨.refl _ _, ?_, ⟨fun i b h => hH.blk i b ((hget i).symm.trans h), fun i j bi bj b o' hij h1 h2 => hH.dis i j bi bj b o' hij ((hget i).symm.trans h1) ((hget j).symm.trans h2), hH.sl⟩, .refl _ _ _, fun i blk b o' hi hg ho' => .inr ⟨i, blk, hi, (hget i).symm.trans hg, ho'⟩, fun _ _ => ⟨rfl, rfl⟩, fun i u' y us h => .inl ⟨y, us, (hget i).symm.trans h⟩⟩
                rw [show l ++ strBytes [] = l from by simp [strBytes]]
                exact hs1
              refine OpOk.value (v := v0) (w' := w) ?_ hkeep
              rw [hx, hv, hvr, hvl]
              have := run_append_str_none (P := P) w t u o.type e' ei h2 hu hei (by rw [hz.1]; rfl) adl (List.length l) capl hlel
              simp only [builtin, Sem.run_bind]
              rw [this]
              simp only [Result.andThen_ok, Sem.run_pure]
            · have hxs : RdF (Rd g w (.int .u8)) 1 l xs := by
                by_cases h0 : List.length l = 0
                · obtain rfl : l = [] := List.eq_nil_of_length_eq_zero h0
                  have : xs = [] := List.eq_nil_of_length_eq_zero (by rw [hown.1, ← hln]; simp)
                  exact this
                · rcases hll with rfl | ⟨b0, off0, rfl, hL0⟩
                  · exact absurd rfl h0
                  · obtain ⟨ls, hF0, hra0, _⟩ := RdL_toF hL0
                    rcases hown.2 with ⟨e1, e2⟩ | ⟨q, cap, cur, e1, e2⟩
                    · exact absurd (hln.trans e2) h0
                    · rw [hvl] at e1
                      simp only [Value.slice.injEq, Option.some.injEq, Addr.mk.injEq] at e1
                      obtain ⟨⟨rfl, rfl, _⟩, _, rfl⟩ := e1
                      have hvn : v0 = .slice (some ⟨b0, 0, none⟩) n capl := by rw [hvl, hln]
                      have hrx := cells_of_ownsRow (hvn ▸ hown)
                      have : ls = xs := by
                        have hl1 := RdF_length hF0
                        have hl2 := hown.1
                        have hc1 : Ty.cells (.int .u8) = 1 := rfl
                        rw [hc1] at hl1
                        apply List.ext_getElem?
                        intro j
                        by_cases hj : j < ls.length
                        · have h1 := hra0 j ls[j] (List.getElem?_eq_getElem hj)
                          have hj' : j < xs.length := by rw [hl2, ← hln, ← hl1]; exact hj
                          have h2 := hrx j xs[j] (List.getElem?_eq_getElem hj')
                          rw [h1] at h2
                          rw [List.getElem?_eq_getElem hj, List.getElem?_eq_getElem hj', Option.some.inj h2]
                        · rw [List.getElem?_eq_none (by omega), List.getElem?_eq_none (by rw [hl2, ← hln, ← hl1]; omega)]
                      rw [← this]
                      exact hF0
              obtain ⟨q, cap, w', hrun, hown', hq, hg, hcap, hcell⟩ := run_append_str_k (P := P) w t u o.type e' ei h2 hu hei hz.2.2 hz.1 hz.2.1 v0 n xs hown ⟨List.toArray s⟩ (by rw [hsz]; omega) (by rw [hsz]; unfold maxLen; omega) (by rw [hsz]; omega)
              rw [hsz] at hrun hown' hcap
              rw [strCells_eq] at hown'
              refine OpOk.value (v := .slice (some ⟨q, 0, none⟩) (n + List.length s) cap) (w' := w') ?_ (by
                have := EffOk.append (side := [List.length l = n, List.length l + List.length s ≤ 140737488355328]) (rds := [k]) (u := .int .u8) (r := strBytes s) hH hk (show (1 : Nat) = Ty.cells (.int .u8) from rfl) hln hv0 hown hnone hseal hxs (strBytes_RdF g w s) (by rw [hsl]; omega) (by rw [hsl]; exact hown') hq hg (by rw [hsl]; exact hcap) hcell
                rw [hsl] at this
                rw [hln]
                rw [hln] at this
                exact this)
              rw [hx, hv, hvr]
              simp only [builtin, Sem.run_bind, hrun, Result.andThen_ok, Sem.run_pure]
          · cases hr
        · cases hr
      · cases hr
  · cases hr

end

end Go.Proofs.Ytfcibaiiobihnaa.Vc
