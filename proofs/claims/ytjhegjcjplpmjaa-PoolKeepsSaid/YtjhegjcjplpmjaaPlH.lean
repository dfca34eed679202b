/- Pools: ReadAt, WriteAt. -/
import Derived.Test.YtjhegjcjplpmjaaPlG
namespace Go.Proofs.Ytjhegjcjplpmjaa
set_option linter.unusedVariables false

theorem take_chunk {own : List UInt8} {at_ d m k o : Nat} (he : 64 * k + o = at_ + d) (hm : o + m ≤ (chunk own k).length) : (own.drop at_).take d ++ ((chunk own k).drop o).take m = (own.drop at_).take (d + m) := by
  have hl := chunk_len own k
  have h1 : ((chunk own k).drop o).take m = ((own.drop at_).drop d).take m := by
    apply List.ext_getElem?
    intro i
    rw [List.getElem?_take, List.getElem?_take]
    by_cases h : i < m
    · rw [if_pos h, if_pos h, List.getElem?_drop, chunk_get, if_pos (by omega), List.getElem?_drop, List.getElem?_drop]
      congr 1
      omega
    · rw [if_neg h, if_neg h]
  rw [h1, List.take_add]
theorem put_step {own bs : List UInt8} {at_ d m : Nat} (h : at_ + bs.length ≤ own.length) (hd : d + m ≤ bs.length) : putAt (putAt own at_ (bs.take d)) (at_ + d) ((bs.drop d).take m) = putAt own at_ (bs.take (d + m)) := by
  have h1 : (putAt own at_ (bs.take d)).length = own.length := put_len (by rw [List.length_take]; omega)
  apply List.ext_getElem?
  intro i
  rw [putAt_getP (by omega), putAt_getP (by omega), putAt_getP (by omega)]
  simp only [List.length_take, List.length_drop, List.getElem?_take, List.getElem?_drop]
  rw [Nat.min_eq_left (show d ≤ bs.length by omega), Nat.min_eq_left (show m ≤ bs.length - d by omega), Nat.min_eq_left (show d + m ≤ bs.length by omega)]
  by_cases c1 : i < at_
  · rw [if_pos (show i < at_ + d by omega), if_pos c1, if_pos c1]
  · by_cases c2 : i < at_ + d
    · rw [if_pos c2, if_neg c1, if_pos c2, if_neg c1, if_pos (show i < at_ + (d + m) by omega), if_pos (show i - at_ < d by omega), if_pos (show i - at_ < d + m by omega)]
    · rw [if_neg c2]
      by_cases c3 : i < at_ + d + m
      · rw [if_pos c3, if_neg c1, if_pos (show i < at_ + (d + m) by omega), if_pos (show i - (at_ + d) < m by omega), if_pos (show i - at_ < d + m by omega)]
        congr 1
        omega
      · rw [if_neg c3, if_neg c1, if_neg c2, if_neg c1, if_neg (show ¬ i < at_ + (d + m) by omega)]
theorem put_nil {own : List UInt8} {at_ : Nat} : putAt own at_ [] = own := by simp [putAt]

theorem put_of {Y z : List UInt8} {o m : Nat} (h : z.length = m) : Y.take o ++ z ++ Y.drop (o + m) = putAt Y o z := by rw [putAt, h]

/-! ### The closures -/
theorem read_do (F : Fm) (own : List UInt8) (at_ q ob : Nat) (hN : own.length ≤ 300) : DoSpec 29 [.pointer (some ⟨ob, 0, none⟩)] F at_ q (fun _ => own) (fun d hc => ∃ vo so, Own byteE vo ((own.drop at_).take d) so ∧ hc = (ob, cellsO [vo] 28) :: so) False := by
  rintro F' hF d m k o xb bb cap c' dirty sp hc ⟨vo, so, oo, rfl⟩ hdm hm he hom hcap
  have hlt : ((own.drop at_).take d).length ≤ 300 := by rw [List.length_take, List.length_drop]; omega
  have hcl := chunk_len own k
  refine Spec.of (n := 10) (vs := [.pointer (some ⟨xb, 0, none⟩), .slice (some ⟨bb, o, none⟩) m c', .int .i64 (d : Int), .pointer (some ⟨ob, 0, none⟩)]) Try.func29 rfl Try.ntmps29 rfl ?_
  refine Vc.text (List.range 4) (sd [(0, .read), (1, .pure), (2, .eff), (3, .eff)]) rfl ?_
  refine Rg.read rfl rfl rfl (Ev.ld rfl rfl) ?_
  refine Rg.pure rfl rfl rfl (Pv.move rfl) ?_
  refine Rg.append rfl rfl rfl rfl rfl oo (Src.row (ys := chunk own k) (sp := sp) (j := o) rfl (by show o = o * 1; omega) rfl hom) (by simp <;> omega) (by simp [maxLen] <;> omega) rfl (fun v9 s9 own9 => ?_)
  refine Rg.store rfl rfl rfl rfl rfl own9.one rfl rfl ?_
  refine Rg.nil ?_
  exact Vc.fin (Vc.retsH rfl .nil (⟨dirty, (ob, cellsO [v9] 28) :: s9, rfl, ⟨v9, s9, by rw [← take_chunk he hom]; exact own9, rfl⟩, .inr ⟨rfl, rfl⟩⟩) pulled)
theorem write_do (F : Fm) (own bs : List UInt8) (at_ bx : Nat) {vb : Value} (hb : Arg byteE F vb bs) (hN : own.length ≤ 300) (hbl : at_ + bs.length ≤ own.length) : DoSpec 30 [.pointer (some ⟨bx, 0, none⟩)] F at_ bs.length (fun d => putAt own at_ (bs.take d)) (fun d hc => hc = [(bx, cellsO [vb] 28)]) True := by
  rintro F' hF d m k o xb bb cap c' dirty sp hc rfl hdm hm he hom hcap
  replace hom : o + m ≤ (chunk (putAt own at_ (bs.take d)) k).length := hom
  obtain ⟨b, off, c, rfl, hcc⟩ := hb.block (by omega)
  have hput := put_step hbl hdm
  have hlen : (putAt own at_ (bs.take d)).length = own.length := put_len (by rw [List.length_take]; omega)
  have hcl := chunk_len (putAt own at_ (bs.take d)) k
  have hch : chunk (putAt own at_ (bs.take (d + m))) k = putAt (chunk (putAt own at_ (bs.take d)) k) o ((bs.drop d).take m) := by
    rw [← hput, ← he]
    exact chunk_put (by rw [List.length_take, List.length_drop]; omega) (by omega)
  refine Spec.of (n := 15) (vs := [.pointer (some ⟨xb, 0, none⟩), .slice (some ⟨bb, o, none⟩) m c', .int .i64 (d : Int), .pointer (some ⟨bx, 0, none⟩)]) Try.func30 rfl Try.ntmps30 rfl ?_
  refine Vc.seq ?_
  refine Vc.text (List.range 5) (sd [(0, .pure), (1, .read), (2, .pure), (3, .pure), (4, .eff)]) rfl ?_
  refine Rg.pure rfl rfl rfl (Pv.move rfl) ?_
  refine Rg.read rfl rfl rfl (Ev.ld rfl rfl) ?_
  refine Rg.pure rfl rfl rfl (Pv.move rfl) ?_
  refine Rg.pure rfl rfl rfl (Pv.slFrom (d) rfl rfl (by omega) (by omega)) ?_
  refine Rg.copy (E := byteE) (ys := chunk (putAt own at_ (bs.take d)) k) (sp := sp) (zs := bs.drop d) o rfl rfl rfl rfl rfl (Arg.src (by have := (hb.mono hF).sub d bs.length (by omega) (Nat.le_refl _); rw [List.take_of_length_le (by rw [List.length_drop]; exact Nat.le_refl _)] at this; exact this)) (.inr (by show o = o * 1; omega)) hom rfl ?_
  rw [show min (bs.drop d).length m = m from by rw [List.length_drop]; omega]
  rw [show (chunk (putAt own at_ (bs.take d)) k).take o ++ (bs.drop d).take m ++ (chunk (putAt own at_ (bs.take d)) k).drop (o + m) = chunk (putAt own at_ (bs.take (d + m))) k from by rw [hch]; exact put_of (by rw [List.length_take, List.length_drop]; omega)]
  refine Rg.nil ?_
  refine Vc.text (List.range 4) (sd [(0, .pure), (1, .pure), (2, .pure), (3, .eff)]) rfl ?_
  refine Rg.pure rfl rfl rfl (Pv.move rfl) ?_
  refine Rg.pure rfl rfl rfl (Pv.nilp rfl) ?_
  refine Rg.pure rfl rfl rfl (Pv.fa rfl) ?_
  refine Rg.store rfl rfl rfl rfl rfl rfl rfl rfl ?_
  refine Rg.nil ?_
  exact Vc.fin (Vc.retsH rfl .nil (⟨true, [(bx, cellsO [.slice (some ⟨b, off, none⟩) bs.length c] 28)], rfl, rfl, .inl ⟨rfl, trivial⟩⟩) pulled)
end Go.Proofs.Ytjhegjcjplpmjaa
