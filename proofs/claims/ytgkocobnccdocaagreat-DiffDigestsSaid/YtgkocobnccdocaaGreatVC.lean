/- The value machine: an operation sees what it reads, and no more. -/
import Derived.Test.YtgkocobnccdocaaGreatVB
import Derived.Sort.LoopGhostIn
import Derived.Scope
import Derived.RangeFuncRecord
import Derived.OwnWalk
set_option linter.unusedVariables false
set_option linter.unusedSimpArgs false
namespace Go.V
section
variable {P : Program} {hf hf2 : HF} {r : Res} {tf tf2 : TF} {lvl site : Nat}
theorem xN8 : ∀ {xs : List VX}, (∀ x ∈ xs, ev tf2 x = ev tf x) → evs tf2 xs = evs tf xs
  | [], _ => rfl
  | x :: xs, h => by simp only [evs, h x (by simp), xN8 (xs := xs) (fun y hy => h y (List.mem_cons_of_mem _ hy))]
theorem xJr : ∀ {xs : List (Nat × Nat × VX)}, (∀ x ∈ xs.map fun p => p.2.2, ev tf2 x = ev tf x) → xGr tf2 xs = xGr tf xs
  | [], _ => rfl
  | (o, n, x) :: xs, h => by simp only [xGr, h x (by simp), xJr (fun y hy => h y (by simp only [List.map_cons, List.mem_cons]; exact .inr hy))]
theorem xN9 : ∀ {xs : List (Nat × VX)}, (∀ x ∈ xs.map fun p => p.2, ev tf2 x = ev tf x) → xO1 tf2 xs = xO1 tf xs
  | [], _ => rfl
  | (o, x) :: xs, h => by simp only [xO1, h x (by simp), xN9 (fun y hy => h y (by simp only [List.map_cons, List.mem_cons]; exact .inr hy))]
theorem xDH {x : Option VX} {d : Int} (h : ∀ y ∈ x.toList, ev tf2 y = ev tf y) : xAR tf2 d x = xAR tf d x := by
  cases x with
  | none => rfl
  | some y => simp only [xAR, h y (by simp)]
theorem vop_tf {op : VOp} (h : ∀ x ∈ op.operands, ev tf2 x = ev tf x) : vop lvl site tf2 hf op = vop lvl site tf hf op := by
  cases op <;> simp only [VOp.operands] at h <;> simp only [vop]
  case slstr x lo hi =>
    have h1 : ∀ d, xAR tf2 d lo = xAR tf d lo := fun d => xDH fun y hy => h y (by simp only [List.mem_cons, List.mem_append]; exact .inr (.inl hy))
    have h2 : ∀ d, xAR tf2 d hi = xAR tf d hi := fun d => xDH fun y hy => h y (by simp only [List.mem_cons, List.mem_append]; exact .inr (.inr hy))
    simp only [h x (by simp), h1, h2]
  case slsl esz x lo hi mx =>
    have h1 : ∀ d, xAR tf2 d lo = xAR tf d lo := fun d => xDH fun y hy => h y (by simp only [List.mem_cons, List.mem_append]; exact .inr (.inl (.inl hy)))
    have h2 : ∀ d, xAR tf2 d hi = xAR tf d hi := fun d => xDH fun y hy => h y (by simp only [List.mem_cons, List.mem_append]; exact .inr (.inl (.inr hy)))
    have h3 : ∀ d, xAR tf2 d mx = xAR tf d mx := fun d => xDH fun y hy => h y (by simp only [List.mem_cons, List.mem_append]; exact .inr (.inr hy))
    simp only [h x (by simp), h1, h2, h3]
  case slarr m n x lo hi =>
    have h1 : ∀ d, xAR tf2 d lo = xAR tf d lo := fun d => xDH fun y hy => h y (by simp only [List.mem_cons, List.mem_append]; exact .inr (.inl hy))
    have h2 : ∀ d, xAR tf2 d hi = xAR tf d hi := fun d => xDH fun y hy => h y (by simp only [List.mem_cons, List.mem_append]; exact .inr (.inr hy))
    simp only [h x (by simp), h1, h2]
  case build z ps => simp only [xJr h]
  case bslice e z n ps => simp only [xN9 h]
  case fn f cs => simp only [xN8 h]
  case pick c a b => simp only [h c (by simp), h a (by simp), h b (by simp)]
  case mset kk c a b => simp only [h c (by simp), h a (by simp), h b (by simp)]
  all_goals first
    | rfl
    | simp only [h _ (List.mem_cons_self), h _ (List.mem_cons_of_mem _ List.mem_cons_self)]
    | simp only [h _ (List.mem_cons_self)]
theorem xFE {p : PV} {rd : List Bid} {l : List (List PV)} (hc : xAf hf p = some (rd, l)) (h : ∀ b ∈ rd, hf2 b = hf b) : xAf hf2 p = some (rd, l) := by
  cases p <;> simp only [xAf] at hc ⊢ <;> (try exact hc)
  obtain ⟨B, hb, hc⟩ := bind_some hc
  split at hc
  · rename_i hcc
    cases hc
    rw [h _ (by simp), hb]
    simp only [Option.bind_some]
    rw [if_pos hcc]
  · cases hc
theorem xMz {p : PV} {rd : List Bid} {l : List (List PV)} (hc : xHe hf p = some (rd, l)) (h : ∀ b ∈ rd, hf2 b = hf b) : xHe hf2 p = some (rd, l) := by
  have one : xAf hf p = some (rd, l) → xAf hf2 p = some (rd, l) := fun hc => xFE hc h
  cases p <;> first | exact one hc | (cases hc; done)
theorem xL6 {p q : PV} {rd : List Bid} (hc : xBJ hf p = some (rd, q)) (h : ∀ b ∈ rd, hf2 b = hf b) : xBJ hf2 p = some (rd, q) := by
  cases p <;> simp only [xBJ] at hc ⊢ <;> (try exact hc)
  obtain ⟨⟨rd', l⟩, hct, hq⟩ := map_some hc
  simp only [Prod.mk.injEq] at hq
  obtain ⟨rfl, rfl⟩ := hq
  rw [xFE hct h]
  rfl
theorem xIR {lent : List Bid} {p q : PV} {rd : List Bid} (hc : xBM hf lent p = some (rd, q)) (h : ∀ b ∈ rd, hf2 b = hf b) : xBM hf2 lent p = some (rd, q) := by
  cases p <;> simp only [xBM] at hc ⊢ <;> (try exact hc)
  split at hc
  · rename_i i hi
    exact hc
  · rename_i hi
    exact xL6 hc h
theorem xG7 {lent : List Bid} : ∀ {cs qs : List PV} {rd : List Bid}, xCV hf lent cs = some (rd, qs) → (∀ b ∈ rd, hf2 b = hf b) → xCV hf2 lent cs = some (rd, qs)
  | [], _, _, h, _ => h
  | c :: cs, qs, rd, h, hh => by
    simp only [xCV] at h ⊢
    obtain ⟨⟨b, x⟩, h1, h⟩ := bind_some h
    obtain ⟨⟨bs, xs⟩, h2, h⟩ := map_some h
    simp only [Prod.mk.injEq] at h
    obtain ⟨rfl, rfl⟩ := h
    rw [xIR h1 (fun b hb => hh b (by simp [hb]))]
    simp only [Option.bind_some]
    rw [xG7 h2 (fun b hb => hh b (by simp [hb]))]
    rfl
theorem xNs {lent : List Bid} {p q : PV} {rd : List Bid} (hc : xEY hf lent p = some (rd, q)) (h : ∀ b ∈ rd, hf2 b = hf b) : xEY hf2 lent p = some (rd, q) := by
  have one : xBM hf lent p = some (rd, q) → xBM hf2 lent p = some (rd, q) := fun h1 => xIR h1 h
  cases p with
  | fn f cs =>
    simp only [xEY] at hc ⊢
    obtain ⟨⟨b, xs⟩, h1, hc⟩ := map_some hc
    simp only [Prod.mk.injEq] at hc
    obtain ⟨rfl, rfl⟩ := hc
    rw [xG7 h1 h]
    rfl
  | _ => exact one hc
theorem xLg {lent : List Bid} : ∀ {cs qs : List PV} {rd : List Bid}, xFP hf lent cs = some (rd, qs) → (∀ b ∈ rd, hf2 b = hf b) → xFP hf2 lent cs = some (rd, qs)
  | [], _, _, h, _ => h
  | c :: cs, qs, rd, h, hh => by
    simp only [xFP] at h ⊢
    obtain ⟨⟨b, x⟩, h1, h⟩ := bind_some h
    obtain ⟨⟨bs, xs⟩, h2, h⟩ := map_some h
    simp only [Prod.mk.injEq] at h
    obtain ⟨rfl, rfl⟩ := h
    rw [xNs h1 (fun b hb => hh b (by simp [hb]))]
    simp only [Option.bind_some]
    rw [xLg h2 (fun b hb => hh b (by simp [hb]))]
    rfl
theorem xNq {lent : List Bid} {p q : PV} {rd : List Bid} (hc : xCZ hf lent p = some (rd, q)) (h : ∀ b ∈ rd, hf2 b = hf b) : xCZ hf2 lent p = some (rd, q) := by
  have one : xEY hf lent p = some (rd, q) → xEY hf2 lent p = some (rd, q) := fun h1 => xNs h1 h
  cases p with
  | agg cs =>
    simp only [xCZ] at hc ⊢
    obtain ⟨⟨b, xs⟩, h1, hc⟩ := map_some hc
    simp only [Prod.mk.injEq] at hc
    obtain ⟨rfl, rfl⟩ := hc
    rw [xLg h1 h]
    rfl
  | _ => exact one hc
theorem xLe {lent : List Bid} : ∀ {cs qs : List PV} {rd : List Bid}, xBe hf lent cs = some (rd, qs) → (∀ b ∈ rd, hf2 b = hf b) → xBe hf2 lent cs = some (rd, qs)
  | [], _, _, h, _ => h
  | c :: cs, qs, rd, h, hh => by
    simp only [xBe] at h ⊢
    obtain ⟨⟨b, x⟩, h1, h⟩ := bind_some h
    obtain ⟨⟨bs, xs⟩, h2, h⟩ := map_some h
    simp only [Prod.mk.injEq] at h
    obtain ⟨rfl, rfl⟩ := h
    rw [xNq h1 (fun b hb => hh b (by simp [hb]))]
    simp only [Option.bind_some]
    rw [xLe h2 (fun b hb => hh b (by simp [hb]))]
    rfl
theorem xLi {lent : List Bid} : ∀ {l : List Bid} {hin : List Blk}, xCM hf lent l = some hin → (∀ b ∈ l, hf2 b = hf b) → xCM hf2 lent l = some hin
  | [], _, h, _ => h
  | b :: l, hin, h, hh => by
    simp only [xCM] at h ⊢
    rw [hh b (by simp)]
    obtain ⟨B, hB, h⟩ := bind_some h
    obtain ⟨B', hB', h⟩ := bind_some h
    obtain ⟨xs, hxs, rfl⟩ := map_some h
    rw [hB]
    simp only [Option.bind_some, hB', xLi hxs (fun c hc => hh c (by simp [hc]))]
    rfl
theorem vop_hf {op : VOp} (hr : vop lvl site tf hf op = some r) (h : ∀ b, b ∈ r.rd ∨ b ∈ r.ws.map (·.1) → hf2 b = hf b) : vop lvl site tf hf2 op = some r := by
  cases op <;> simp only [vop] at hr ⊢ <;> (try exact hr)
  case box x =>
    obtain ⟨p, hp, hr⟩ := bind_some hr
    rw [hp]
    simp only [Option.bind_some]
    split at hr
    · rename_i hc
      cases hr
      rw [if_pos ⟨by rw [h _ (.inr (by simp))]; exact hc.1, hc.2⟩]
    · cases hr
  case alloc z =>
    split at hr
    · rename_i hc
      cases hr
      rw [if_pos ⟨by rw [h _ (.inr (by simp))]; exact hc.1, hc.2⟩]
    · cases hr
  case mkmap =>
    split at hr
    · rename_i hc
      cases hr
      rw [if_pos (by rw [h _ (.inr (by simp))]; exact hc)]
    · cases hr
  case mlook kk z ok x k =>
    obtain ⟨p, hp, hr⟩ := bind_some hr
    obtain ⟨q, hq, hr⟩ := bind_some hr
    rw [hp, hq]
    simp only [Option.bind_some]
    split at hr
    · rename_i hc
      rw [if_pos hc]
      cases p with
      | mapr b => ?_
      | _ => exact hr
      simp only at hr ⊢
      obtain ⟨B, hb, hr⟩ := bind_some hr
      obtain ⟨es, he, hr⟩ := bind_some hr
      obtain ⟨rr, hf', rfl⟩ := map_some hr
      rw [h b (.inl (by simp)), hb]
      simp only [Option.bind_some, he, hf', Option.map_some]
    · cases hr
  case mset kk x k v =>
    obtain ⟨p, hp, hr⟩ := bind_some hr
    obtain ⟨q, hq, hr⟩ := bind_some hr
    obtain ⟨y, hy, hr⟩ := bind_some hr
    rw [hp, hq, hy]
    simp only [Option.bind_some]
    split at hr
    · rename_i hc
      rw [if_pos hc]
      cases p with
      | mapr b => ?_
      | _ => exact hr
      simp only at hr ⊢
      obtain ⟨B, hb, hr⟩ := bind_some hr
      obtain ⟨es, he, hr⟩ := bind_some hr
      obtain ⟨rr, hf', rfl⟩ := map_some hr
      rw [h b (.inl (by simp)), hb]
      simp only [Option.bind_some, he, hf', Option.map_some]
    · cases hr
  case bslice esz z n ps =>
    obtain ⟨vs, hvs, hr⟩ := bind_some hr
    obtain ⟨els, hels, hr⟩ := bind_some hr
    rw [hvs]
    simp only [Option.bind_some, hels]
    split at hr
    · rename_i hc
      cases hr
      rw [if_pos ⟨by rw [h _ (.inr (by simp))]; exact hc.1, hc.2⟩]
    · cases hr
  case load agg n x =>
    obtain ⟨p, hp, hr⟩ := bind_some hr
    rw [hp]
    simp only [Option.bind_some]
    cases p <;> simp only at hr ⊢ <;> (try exact hr)
    rename_i b hw i j
    obtain ⟨B, hb, hr⟩ := bind_some hr
    obtain ⟨e, he, hr⟩ := bind_some hr
    have hrd : r.rd = [b] := by
      split at hr
      · cases hr
      · split at hr
        · split at hr <;> cases hr; rfl
        · obtain ⟨v, _, rfl⟩ := map_some hr; rfl
    rw [h b (.inl (by rw [hrd]; simp)), hb]
    simp only [Option.bind_some, he]
    exact hr
  case store n x y =>
    obtain ⟨p, hp, hr⟩ := bind_some hr
    rw [hp]
    simp only [Option.bind_some]
    cases p <;> simp only at hr ⊢ <;> (try exact hr)
    rename_i b hw i j
    obtain ⟨v, hv, hr⟩ := bind_some hr
    obtain ⟨B, hb, hr⟩ := bind_some hr
    obtain ⟨e, he, hr⟩ := bind_some hr
    have hrd : r.rd = [b] := by split at hr <;> cases hr; rfl
    rw [hv, h b (.inl (by rw [hrd]; simp)), hb]
    simp only [Option.bind_some, he]
    exact hr
  case s2b x =>
    obtain ⟨p, hp, hr⟩ := bind_some hr
    rw [hp]
    simp only [Option.bind_some]
    cases p <;> simp only at hr ⊢ <;> (try exact hr)
    split at hr
    · rename_i hc
      cases hr
      rw [if_pos (by rw [h _ (.inr (by simp))]; exact hc)]
    · cases hr
  case b2s x =>
    obtain ⟨p, hp, hr⟩ := bind_some hr
    rw [hp]
    simp only [Option.bind_some]
    obtain ⟨⟨rd, l⟩, hct, hr⟩ := bind_some hr
    obtain ⟨s, hs, rfl⟩ := map_some hr
    rw [xMz hct (fun b hb => h b (.inl hb))]
    simp only [Option.bind_some, hs, Option.map_some]
  case mkslice m z x y =>
    obtain ⟨p, hp, hr⟩ := bind_some hr
    obtain ⟨q, hq, hr⟩ := bind_some hr
    rw [hp, hq]
    simp only [Option.bind_some]
    split at hr
    · split at hr
      · rename_i hc
        cases hr
        rw [if_pos ⟨by rw [h _ (.inr (by simp))]; exact hc.1, hc.2⟩]
      · cases hr
    · cases hr
  case appZ esz m z x y =>
    obtain ⟨p, hp, hr⟩ := bind_some hr
    obtain ⟨q, hq, hr⟩ := bind_some hr
    rw [hp, hq]
    simp only [Option.bind_some]
    split at hr
    · split at hr
      · rename_i hc
        cases hr
        rw [if_pos ⟨by rw [h _ (.inr (by simp))]; exact hc.1, hc.2⟩]
      · cases hr
    · cases hr
  case clear esz z x =>
    obtain ⟨p, hp, hr⟩ := bind_some hr
    rw [hp]
    simp only [Option.bind_some]
    cases p <;> simp only at hr ⊢ <;> (try exact hr)
    rename_i b hw off len
    obtain ⟨B, hb, hr⟩ := bind_some hr
    split at hr
    · rename_i hc
      cases hr
      rw [h b (.inl (by simp)), hb]
      simp only [Option.bind_some]
      rw [if_pos hc]
    · cases hr
  case slsl esz x lo hi mx =>
    obtain ⟨p, hp, hr⟩ := bind_some hr
    rw [hp]
    simp only [Option.bind_some]
    cases p <;> simp only at hr ⊢ <;> (try exact hr)
    rename_i b hw off len
    obtain ⟨l, hl, hr⟩ := bind_some hr
    obtain ⟨hh, hhh, hr⟩ := bind_some hr
    rw [hl, hhh]
    simp only [Option.bind_some]
    split at hr
    · rename_i hc
      rw [if_pos hc]
      obtain ⟨B, hb, hr⟩ := bind_some hr
      split at hr
      · rename_i hc2
        cases hr
        rw [h b (.inl (by simp)), hb]
        simp only [Option.bind_some]
        rw [if_pos hc2]
      · cases hr
    · cases hr
  case slarr m n x lo hi =>
    obtain ⟨p, hp, hr⟩ := bind_some hr
    rw [hp]
    simp only [Option.bind_some]
    cases p <;> simp only at hr ⊢ <;> (try exact hr)
    rename_i b hw i j
    obtain ⟨l, hl, hr⟩ := bind_some hr
    obtain ⟨hh, hhh, hr⟩ := bind_some hr
    obtain ⟨B, hb, hr⟩ := bind_some hr
    obtain ⟨e, he, hr⟩ := bind_some hr
    have hrd : r.rd = [b] := by split at hr <;> cases hr; rfl
    rw [hl, hhh, h b (.inl (by rw [hrd]; simp)), hb]
    simp only [Option.bind_some, he]
    exact hr
  case iaddr esz x y =>
    obtain ⟨p, hp, hr⟩ := bind_some hr
    obtain ⟨q, hq, hr⟩ := bind_some hr
    rw [hp, hq]
    simp only [Option.bind_some]
    cases q <;> simp only at hr ⊢ <;> (try exact hr)
    cases p with
    | own b hw off len => ?_
    | _ => exact hr
    simp only at hr ⊢
    obtain ⟨B, hb, hr⟩ := bind_some hr
    split at hr
    · rename_i hc
      cases hr
      rw [h b (.inl (by simp)), hb]
      simp only [Option.bind_some]
      rw [if_pos hc]
    · cases hr
  case append esz by' z x y =>
    obtain ⟨p, hp, hr1⟩ := bind_some hr
    clear hr
    obtain ⟨q, hq, hr2⟩ := bind_some hr1
    clear hr1
    obtain ⟨⟨rd, ys⟩, hct, hr⟩ := bind_some hr2
    clear hr2
    rw [hp, hq]
    simp only [Option.bind_some]
    have key : (∀ b ∈ rd, b ∈ r.rd) ∧ (∀ b hw off len, p = .own b hw off len → b ∈ r.rd) := by
      split at hr
      · cases p with
        | nils =>
          simp only at hr
          split at hr
          · cases hr; exact ⟨fun b hb => hb, by simp⟩
          · cases hr
        | sh ex l =>
          cases ex with
          | false => cases hr
          | true =>
            cases ys with
            | nil => cases hr; exact ⟨fun b hb => hb, by simp⟩
            | cons y0 ys =>
              simp only at hr
              split at hr
              · cases hr; exact ⟨fun b hb => hb, by simp⟩
              · cases hr
        | own b hw off len =>
          obtain ⟨B, hb, hr2⟩ := bind_some hr
          clear hr
          split at hr2
          · split at hr2
            · cases hr2
              exact ⟨fun b hb => List.mem_cons_of_mem _ hb, fun b' _ _ _ e => by cases e; exact List.mem_cons_self⟩
            · cases hr2
              exact ⟨fun b hb => List.mem_cons_of_mem _ hb, fun b' _ _ _ e => by cases e; exact List.mem_cons_self⟩
          · cases hr2
        | _ => cases hr
      · cases hr
    rw [xFE hct (fun b hb => h b (.inl (key.1 b hb)))]
    simp only [Option.bind_some]
    split at hr
    · rename_i hcond
      rw [if_pos hcond]
      cases p with
      | nils =>
        simp only at hr ⊢
        split at hr
        · rename_i hc
          cases hr
          rw [if_pos ⟨by rw [h _ (.inr (by simp))]; exact hc.1, hc.2⟩]
        · cases hr
      | sh ex l =>
        cases ex with
        | false => cases hr
        | true =>
          cases ys with
          | nil => exact hr
          | cons y0 ys =>
            simp only at hr ⊢
            split at hr
            · rename_i hc
              cases hr
              rw [if_pos ⟨by rw [h _ (.inr (by simp))]; exact hc.1, hc.2⟩]
            · cases hr
      | own b hw off len =>
        simp only
        rw [h b (.inl (key.2 b hw off len rfl))]
        exact hr
      | _ => cases hr
    · cases hr
  case copyS esz x y =>
    obtain ⟨p, hp, hr1⟩ := bind_some hr
    clear hr
    obtain ⟨q, hq, hr2⟩ := bind_some hr1
    clear hr1
    obtain ⟨⟨rd, ys⟩, hct, hr⟩ := bind_some hr2
    clear hr2
    rw [hp, hq]
    simp only [Option.bind_some]
    have key : (∀ b ∈ rd, b ∈ r.rd) ∧ (∀ b hw off len, p = .own b hw off len → b ∈ r.rd) := by
      cases p with
      | nils => cases hr; exact ⟨fun b hb => hb, by simp⟩
      | own b hw off len =>
        obtain ⟨B, hb, hr2⟩ := bind_some hr
        clear hr
        split at hr2
        · split at hr2
          · cases hr2
            exact ⟨fun b hb => List.mem_cons_of_mem _ hb, fun b' _ _ _ e => by cases e; exact List.mem_cons_self⟩
          · cases hr2
            exact ⟨fun b hb => List.mem_cons_of_mem _ hb, fun b' _ _ _ e => by cases e; exact List.mem_cons_self⟩
        · cases hr2
      | _ => cases hr
    rw [xFE hct (fun b hb => h b (.inl (key.1 b hb)))]
    simp only [Option.bind_some]
    cases p with
    | own b hw off len =>
      simp only
      rw [h b (.inl (key.2 b hw off len rfl))]
      exact hr
    | _ => exact hr
theorem xIi : ∀ {rd : List Bid}, (∀ b ∈ rd, hf2 b = hf b) → frozen hf2 rd = frozen hf rd
  | [], _ => rfl
  | b :: rd, h => by simp only [frozen, h b (by simp), xIi (rd := rd) (fun c hc => h c (List.mem_cons_of_mem _ hc))]
theorem xLa (σ : Bid → Bid) : ∀ (hr : List Blk) (i j : Nat), j < hr.length → σ ⟨0, i + j⟩ ∈ (named σ i hr).map (·.1)
  | [], i, j, h => by simp at h
  | B :: hr, i, j, h => by
    cases j with
    | zero => simp [named]
    | succ j =>
      have := xLa σ hr (i + 1) j (by simpa using h)
      simp only [named, List.map_cons, List.mem_cons]
      refine .inr ?_
      rw [show i + (j + 1) = i + 1 + j from by omega]
      exact this
theorem OpOk.loc {op : VOp} (hr : OpOk P lvl site tf hf op r) (ht : ∀ x ∈ op.operands, ev tf2 x = ev tf x) (h : ∀ b, b ∈ r.rd ∨ b ∈ r.ws.map (·.1) → hf2 b = hf b) : OpOk P lvl site tf2 hf2 op r := by
  by_cases hc : ∃ f xs, op = .call f xs
  · obtain ⟨f, xs, rfl⟩ := hc
    simp only [VOp.operands] at ht
    have htg : ∀ {fid : Nat} {all : List PV}, Targ tf f xs fid all → Targ tf2 f xs fid all := by
      rintro fid all (⟨f', caps, ps, e1, e2, rfl, rfl⟩ | ⟨tbl, t, cs, ps, e1, e2, e3, rfl⟩)
      · exact .inl ⟨f', caps, ps, by rw [ht f (by simp)]; exact e1, by rw [xN8 (fun x hx => ht x (by simp [hx]))]; exact e2, rfl, rfl⟩
      · exact .inr ⟨tbl, t, cs, ps, by rw [ht f (by simp)]; exact e1, by rw [xN8 (fun x hx => ht x (by simp [hx]))]; exact e2, e3, rfl⟩
    rcases hr with hr | ⟨fid, all, v, rd, e1, hx, rfl⟩
    rotate_left
    · simp only at h
      exact .inr ⟨fid, all, v, rd, htg e1, fun Γ F μ hf3 w rargs h3 => hx Γ F μ hf3 w rargs (fun b hb => (h3 b hb).trans (h b (.inl hb))), rfl⟩
    obtain ⟨lent, fz, fid, all, rd, qs, hin, v, hout, e1, e3, e4, hnd, hdis, hvc, hfree, hcln, rfl⟩ := hr
    simp only at h
    refine .inl ⟨lent, fz, fid, all, rd, qs, hin, v, hout, htg e1, xLe e3 (fun b hb => h b (.inl (by simp [hb]))), xLi e4 (fun b hb => h b (.inl (by simp [hb]))), hnd, hdis, hvc, fun i hi => ?_, hcln, ?_⟩
    · rw [h _ (.inr ?_)]
      · exact hfree i hi
      · rw [List.map_append, List.mem_append]
        have := xLa (xBT lent lvl site) hout 0 (lent.length + i) (by omega)
        rw [Nat.zero_add, xDu (by omega), Nat.add_sub_cancel_left] at this
        exact .inr this
    · rw [xIi (fun b hb => h b (.inl (by simp [hb])))]
  · have h1 : vop lvl site tf hf op = some r := by
      cases op <;> first | exact hr | exact (hc ⟨_, _, rfl⟩).elim
    have h2 : vop lvl site tf2 hf2 op = some r := vop_hf (by rw [vop_tf ht]; exact h1) h
    cases op <;> first | exact h2 | exact (hc ⟨_, _, rfl⟩).elim
theorem OpC.loc {op : VOp} : ∀ (ns : List Nat) {tf tf2 : TF} {hf hf2 : HF} {r : Res}, OpC P lvl site op ns tf hf r → (∀ t ∈ op.operands.flatMap VX.tmps, tf2 t = tf t) → (∀ b, b ∈ r.rd ∨ b ∈ r.ws.map (·.1) → hf2 b = hf b) → OpC P lvl site op ns tf2 hf2 r
  | [], tf, tf2, hf, hf2, r, hr, ht, h => OpOk.loc hr (fun x hx => by
      cases x with
      | t n => exact ht n (List.mem_flatMap.2 ⟨.t n, hx, by simp [VX.tmps]⟩)
      | c v => rfl) h
  | n :: ns, tf, tf2, hf, hf2, r, hr, ht, h => by
    obtain ⟨p, rd, q, r', hn, hp, hl, hok, rfl⟩ := hr
    simp only at h
    have hrd : ∀ b ∈ rd, hf2 b = hf b := fun b hb => h b (.inl (by simp [hb]))
    have hfz : frozen hf2 rd = frozen hf rd := xIi hrd
    refine ⟨p, rd, q, r', hn, (ht n hn).trans hp, xNq hl hrd, OpC.loc ns hok (fun t htm => ?_) (fun b hb => ?_), by rw [hfz]⟩
    · simp only [putF]
      split
      · rfl
      · exact ht t htm
    · rw [xD1, xD1]
      by_cases hbr : b ∈ rd
      · rw [hrd b hbr]
      · rw [if_neg (fun e => hbr e.1), if_neg (fun e => hbr e.1)]
        rcases hb with hb | hb
        · exact h b (.inl (by simp [hb]))
        · refine h b (.inr ?_)
          rw [List.map_append, List.mem_append]
          exact .inr hb
end
end Go.V
set_option linter.unusedVariables false
set_option linter.unusedSimpArgs false
namespace Go.V
def xCu (o : VOper) (tf : TF) : Option Bool :=
  match o.guard with
  | none => some true
  | some (_, d, want) => match tf d with | some (.bool b) => some (b == want) | some (.tup []) => some false | _ => none
def OStep (P : Program) (lvl : Nat) (o : VOper) (tf : TF) (hf : HF) (r : Res) : Prop :=
  (xCu o tf = some false ∧ r = ⟨.tup [], [], []⟩) ∨ (xCu o tf = some true ∧ ∃ ns, OpC P lvl o.site o.op ns tf hf r)
def keys (r : Res) : List Bid := r.ws.map (·.1)
def xMP (r : Res) (b : Bid) : Prop := b ∈ r.rd ∨ b ∈ keys r
def xIA (r s : Res) : Prop := (∀ b ∈ keys r, ¬ xMP s b) ∧ (∀ b ∈ keys s, ¬ xMP r b)
section
variable {P : Program} {lvl : Nat} {hf hf2 : HF} {tf tf2 : TF}
theorem xB6 : ∀ (ws : List (Bid × Blk)) (hf : HF) (b : Bid), b ∉ ws.map (·.1) → xAj hf ws b = hf b
  | [], _, _, _ => rfl
  | (c, C) :: ws, hf, b, h => by
    simp only [List.map_cons, List.mem_cons, not_or] at h
    rw [xAj, xB6 ws _ b h.2]
    simp [updH, h.1]
theorem xJ5 : ∀ (ws : List (Bid × Blk)) (hf hf2 : HF) (b : Bid), b ∈ ws.map (·.1) → xAj hf ws b = xAj hf2 ws b
  | (c, C) :: ws, hf, hf2, b, h => by
    simp only [xAj]
    by_cases hb : b ∈ ws.map (·.1)
    · exact xJ5 ws _ _ b hb
    · simp only [List.map_cons, List.mem_cons] at h
      have : b = c := h.resolve_right hb
      subst this
      rw [xB6 ws _ b hb, xB6 ws _ b hb, xCR, xCR]
theorem xOP (xs ys : List (Bid × Blk)) (hf : HF) (h : ∀ b ∈ xs.map (·.1), b ∉ ys.map (·.1)) : xAj (xAj hf xs) ys = xAj (xAj hf ys) xs := by
  funext b
  by_cases hx : b ∈ xs.map (·.1)
  · rw [xB6 ys _ b (h b hx)]
    exact xJ5 xs _ _ b hx
  · rw [xB6 xs (xAj hf ys) b hx]
    by_cases hy : b ∈ ys.map (·.1)
    · exact xJ5 ys _ _ b hy
    · rw [xB6 ys _ b hy, xB6 xs _ b hx, xB6 ys _ b hy]
theorem OStep.loc {o : VOper} {r : Res} (h : OStep P lvl o tf hf r) (ht : ∀ t ∈ o.looks, tf2 t = tf t) (hh : ∀ b, xMP r b → hf2 b = hf b) : OStep P lvl o tf2 hf2 r := by
  have hg : xCu o tf2 = xCu o tf := by
    unfold xCu
    cases hgd : o.guard with
    | none => rfl
    | some g =>
      obtain ⟨g, d, want⟩ := g
      simp only
      rw [ht d (by simp [VOper.looks, hgd])]
  have hx : ∀ t ∈ o.op.operands.flatMap VX.tmps, tf2 t = tf t := fun t htx => ht t (by
    simp only [VOper.looks, List.mem_append]
    exact .inr htx)
  rcases h with ⟨h1, h2⟩ | ⟨h1, ns, h2⟩
  · exact .inl ⟨by rw [hg]; exact h1, h2⟩
  · exact .inr ⟨by rw [hg]; exact h1, ns, OpC.loc ns h2 hx hh⟩
theorem xPD {x y : VOper} (h : x.apart y = true) : (∀ d, x.dst = some d → d ∉ y.looks ∧ y.dst ≠ some d) ∧ (∀ d, y.dst = some d → d ∉ x.looks) := by
  unfold VOper.apart at h
  rw [Bool.and_eq_true] at h
  refine ⟨fun d hd => ?_, fun d hd => ?_⟩
  · have := h.1
    rw [hd] at this
    simp only [Bool.and_eq_true, Bool.not_eq_true', bne_iff_ne] at this
    exact ⟨by simpa using this.1, this.2⟩
  · have := h.2
    rw [hd] at this
    simpa using this
theorem xEG {d : Option Nat} {v : PV} {t : Nat} (h : d ≠ some t) : putF tf d v t = tf t := by
  cases d with
  | none => rfl
  | some d =>
    simp only [putF]
    rw [if_neg (fun e => h (by rw [e]))]
theorem xQJ {d e : Option Nat} {u v : PV} (h : ∀ t, d = some t → e ≠ some t) : putF (putF tf d u) e v = putF (putF tf e v) d u := by
  funext t
  by_cases h1 : d = some t
  · rw [xEG (h t h1)]
    subst h1
    simp [putF]
  · rw [xEG (d := d) h1]
    by_cases h2 : e = some t
    · subst h2
      simp [putF]
    · rw [xEG h2, xEG h1, xEG h2]
theorem OStep.swap {x y : VOper} {r s : Res} (h1 : OStep P lvl x tf hf r) (h2 : OStep P lvl y (putF tf x.dst r.v) (xAj hf r.ws) s) (ha : x.apart y = true) (hc : xIA r s) :
    OStep P lvl y tf hf s ∧ OStep P lvl x (putF tf y.dst s.v) (xAj hf s.ws) r ∧ putF (putF tf x.dst r.v) y.dst s.v = putF (putF tf y.dst s.v) x.dst r.v ∧ xAj (xAj hf r.ws) s.ws = xAj (xAj hf s.ws) r.ws := by
  obtain ⟨a1, a2⟩ := xPD ha
  refine ⟨h2.loc (fun t ht => ?_) (fun b hb => ?_), h1.loc (fun t ht => ?_) (fun b hb => ?_), ?_, ?_⟩
  · exact (xEG (fun e => (a1 t e).1 ht)).symm
  · exact (xB6 _ _ b (fun h => hc.1 b h hb)).symm
  · exact xEG (fun e => a2 t e ht)
  · exact xB6 _ _ b (fun h => hc.2 b h hb)
  · exact xQJ fun t h => (a1 t h).2
  · exact xOP _ _ _ fun b h h' => hc.1 b h (.inr h')
def Run (P : Program) (lvl : Nat) (vs : List VOper) (R : Nat → Res) : List Nat → TF → HF → TF → HF → Prop
  | [], tf, hf, tf', hf' => tf = tf' ∧ hf = hf'
  | i :: l, tf, hf, tf', hf' => ∃ o, vs[i]? = some o ∧ OStep P lvl o tf hf (R i) ∧ Run P lvl vs R l (putF tf o.dst (R i).v) (xAj hf (R i).ws) tf' hf'
theorem Run.front {vs : List VOper} {R : Nat → Res} {i : Nat} : ∀ (l1 l2 : List Nat) {tf : TF} {hf : HF} {tf' : TF} {hf' : HF}, Run P lvl vs R (l1 ++ i :: l2) tf hf tf' hf' →
    (∀ j ∈ l1, ∀ x y, vs[j]? = some x → vs[i]? = some y → x.apart y = true ∧ xIA (R j) (R i)) → Run P lvl vs R (i :: (l1 ++ l2)) tf hf tf' hf'
  | [], l2, tf, hf, tf', hf', h, _ => h
  | j :: l1, l2, tf, hf, tf', hf', h, hi => by
    obtain ⟨x, hx, hs, h⟩ := h
    obtain ⟨y, hy, hs2, h⟩ := Run.front l1 l2 h (fun k hk => hi k (by simp [hk]))
    obtain ⟨c1, c2⟩ := hi j (by simp) x y hx hy
    obtain ⟨g1, g2, g3, g4⟩ := hs.swap hs2 c1 c2
    refine ⟨y, hy, g1, x, hx, g2, ?_⟩
    rw [g3, g4] at h
    exact h
end
structure OperRel (P : Program) (nt : Nat) (ops : Array Oper) (vs : List VOper) (i : Nat) (o : Oper) (v : VOper) : Prop where
  dst : v.dst = o.dst
  lt : ∀ d, o.dst = some d → d < nt
  op : (xAQ P o.op).getD .bad = v.op
  guard : (o.guard = none ∧ v.guard = none) ∨ ∃ g want d, o.guard = some (g, want) ∧ (ops[g]?).bind (·.dst) = some d ∧ v.guard = some (g, d, want)
  edge : ∀ e ∈ o.after.toList, Region.binds .any e = true → e.on < i
  pre : ∀ p ∈ v.pre, ∃ e ∈ o.after.toList, Region.binds .any e = true ∧ (p = e.on ∨ ∃ u, vs[e.on]? = some u ∧ p ∈ u.pre)
section
variable {P : Program} {Γ : Ctx} {nt lvl : Nat} {ro : Option Nat}
theorem xJT (pres : List (List Nat)) : ∀ (es : List Edge) (l : List Nat), es.foldr (fun e acc => acc.bind fun l => if e.on < pres.length then some (e.on :: ((pres.getD e.on []) ++ l)) else none) (some []) = some l →
    (∀ e ∈ es, e.on < pres.length) ∧ ∀ p ∈ l, ∃ e ∈ es, p = e.on ∨ p ∈ pres.getD e.on []
  | [], l, h => by cases h; simp
  | e :: es, l, h => by
    simp only [List.foldr_cons] at h
    obtain ⟨l', hl', h⟩ := bind_some h
    obtain ⟨h1, h2⟩ := xJT pres es l' hl'
    split at h
    · rename_i hlt
      cases h
      refine ⟨fun e' he' => ?_, fun p hp => ?_⟩
      · rcases List.mem_cons.1 he' with h | h
        · rw [h]; exact hlt
        · exact h1 e' h
      · simp only [List.mem_cons, List.mem_append] at hp
        rcases hp with h | h | h
        · exact ⟨e, by simp, .inl h⟩
        · exact ⟨e, by simp, .inr h⟩
        · obtain ⟨e', he', h'⟩ := h2 p h
          exact ⟨e', by simp [he'], h'⟩
    · cases h
theorem xCi {P : Program} {nt id : Nat} {ops : Array Oper} : ∀ (l : List Oper) (i : Nat) (us : List VOper) (vs : List VOper), xDe P nt id ops l i (us.map (·.pre)) = some vs → us.length = i →
    vs.length = l.length ∧ ∀ (k : Nat) (o : Oper), l[k]? = some o → ∃ v, vs[k]? = some v ∧ OperRel P nt ops (us ++ vs) (i + k) o v
  | [], i, us, vs, h, _ => by cases h; simp
  | o :: l, i, us, vs, h, hi => by
    obtain ⟨v, hv, h⟩ := bind_some h
    obtain ⟨ws, hws, rfl⟩ := map_some h
    have he : us.map (·.pre) ++ [v.pre] = (us ++ [v]).map (·.pre) := by simp
    rw [he] at hws
    obtain ⟨h1, h2⟩ := xCi l (i + 1) (us ++ [v]) ws hws (by simp [hi])
    refine ⟨by simp [h1], fun k o' hk => ?_⟩
    cases k with
    | succ k =>
      obtain ⟨v', hv', hr⟩ := h2 k o' (by simpa using hk)
      refine ⟨v', by simpa using hv', ?_⟩
      have e1 : us ++ [v] ++ ws = us ++ v :: ws := by simp
      have e2 : i + 1 + k = i + (k + 1) := by omega
      rw [e1, e2] at hr
      exact hr
    | zero =>
      simp at hk
      subst hk
      refine ⟨v, rfl, ?_⟩
      unfold xIv at hv
      obtain ⟨pre, hpre, hv⟩ := bind_some hv
      obtain ⟨p1, p2⟩ := xJT (us.map (fun x : VOper => x.pre)) (o.after.toList.filter (Region.binds .any)) pre hpre
      have pfacts : ∀ (vv : VOper), vv.pre = pre.eraseDups → (∀ e ∈ o.after.toList, Region.binds .any e = true → e.on < i + 0) ∧ ∀ p ∈ vv.pre, ∃ e ∈ o.after.toList, Region.binds .any e = true ∧ (p = e.on ∨ ∃ u, (us ++ vv :: ws)[e.on]? = some u ∧ p ∈ u.pre) := by
        intro vv hvv
        refine ⟨fun e he hb => ?_, fun p hp => ?_⟩
        · have := p1 e (List.mem_filter.2 ⟨he, hb⟩)
          simpa [hi] using this
        · rw [hvv, List.mem_eraseDups] at hp
          obtain ⟨e, he, h⟩ := p2 p hp
          obtain ⟨he1, he2⟩ := List.mem_filter.1 he
          have hlt := p1 e he
          simp only [List.length_map] at hlt
          refine ⟨e, he1, he2, ?_⟩
          rcases h with h | h
          · exact .inl h
          · refine .inr ⟨us[e.on], ?_, ?_⟩
            · rw [List.getElem?_append_left hlt, List.getElem?_eq_getElem hlt]
            · simpa [List.getD, hlt] using h
      split at hv
      · rename_i hc
        obtain ⟨hc1, hc2⟩ := hc
        have hlt : ∀ d, o.dst = some d → d < nt := fun d hd => by rw [hd] at hc1; simpa [dstOk] using hc1
        split at hv
        · rename_i hg
          cases hv
          obtain ⟨q1, q2⟩ := pfacts ⟨o.dst, (xAQ P o.op).getD .bad, none, (id * 1024 + i) * 8, pre.eraseDups⟩ rfl
          exact ⟨rfl, hlt, rfl, .inl ⟨hg, rfl⟩, q1, q2⟩
        · rename_i g want hg
          obtain ⟨d, hd, rfl⟩ := map_some hv
          obtain ⟨q1, q2⟩ := pfacts ⟨o.dst, (xAQ P o.op).getD .bad, some (g, d, want), (id * 1024 + i) * 8, pre.eraseDups⟩ rfl
          exact ⟨rfl, hlt, rfl, .inr ⟨g, want, d, hg, hd, rfl⟩, q1, q2⟩
      · cases hv
theorem OperRel.bare {P : Program} {nt : Nat} {ops : Array Oper} {vs : List VOper} {i : Nat} {o : Oper} {v : VOper} (h : OperRel P nt ops vs i o v) : OperRel P nt ops (vs.map VOper.bare) i o v.bare :=
  ⟨h.dst, h.lt, h.op, h.guard, h.edge, fun p hp => by cases hp⟩
theorem xRf {P : Program} {nt id : Nat} {ops : Array Oper} {draw : Bool} {vs : List VOper} (hvs : xDe P nt id ops ops.toList 0 [] = some vs) : (if draw = true then vs else vs.map VOper.bare).length = ops.size ∧
    ∀ i o, ops[i]? = some o → ∃ v, (if draw = true then vs else vs.map VOper.bare)[i]? = some v ∧ OperRel P nt ops (if draw = true then vs else vs.map VOper.bare) i o v := by
  obtain ⟨hlen, hrel⟩ := xCi (P := P) (nt := nt) (id := id) (ops := ops) ops.toList 0 [] vs (by simpa using hvs) rfl
  have hrel' : ∀ i o, ops[i]? = some o → ∃ v, vs[i]? = some v ∧ OperRel P nt ops vs i o v := by
    intro i o ho
    obtain ⟨v, h1, h2⟩ := hrel i o (by simpa using ho)
    exact ⟨v, h1, by simpa using h2⟩
  split
  · exact ⟨by simpa using hlen, hrel'⟩
  · refine ⟨by simpa using hlen, fun i o ho => ?_⟩
    obtain ⟨v, h1, h2⟩ := hrel' i o ho
    exact ⟨v.bare, by rw [List.getElem?_map, h1]; rfl, h2.bare⟩
theorem xMR {ops : Array Oper} {vs : List VOper} {i : Nat} {o : Oper} {v : VOper} {tf : TF} {hf : HF} {a : Act} {w : World} {r : Res} {Q : Exit → Act → World → Prop} {K : Act → World → Prop} (ho : ops[i]? = some o) (hrel : OperRel P nt ops vs i o v) (hR : RS Γ nt tf hf a w) (hs : OStep P lvl v tf hf r)
    (hK : ∀ a' w', RS Γ nt (putF tf v.dst r.v) (xAj hf r.ws) a' w' → K a' w') : wpOpIn (FW ro) 0 P ops Q i K a w := by
  have hguard : ∀ b, xCu v tf = some b → Region.wanted o (yielded ops a.tmps) = b := by
    intro b hb
    unfold xCu at hb
    unfold Region.wanted
    rcases hrel.guard with ⟨g1, g2⟩ | ⟨g, want, d, g1, g2, g3⟩
    · rw [g2] at hb
      cases hb
      rw [g1]
    · rw [g3] at hb
      rw [g1]
      simp only at hb ⊢
      split at hb
      · rename_i b' hd
        cases hb
        obtain ⟨F, μ, _, _, _, hT, _, _⟩ := hR
        have hv := xCW (hT d _ hd)
        have hy : yielded ops a.tmps g = some b' := by
          unfold yielded
          rw [g2]
          simp only [Option.bind_some]
          have : a.tmps[d]? = some (.bool b') := by
            rw [Array.getD_eq_getD_getElem?] at hv
            cases h : a.tmps[d]? with
            | none => rw [h] at hv; cases hv
            | some x => rw [h] at hv; simp at hv; rw [hv]
          rw [this]
        rw [hy]
        simp
      · rename_i hd
        cases hb
        obtain ⟨F, μ, _, _, _, hT, _, _⟩ := hR
        obtain ⟨vs, hv, hvs, _⟩ := xQ4 (hT d _ hd)
        have hy : yielded ops a.tmps g = none := by
          unfold yielded
          rw [g2]
          simp only [Option.bind_some]
          rw [Array.getD_eq_getD_getElem?] at hv
          cases h : a.tmps[d]? with
          | none => rfl
          | some x => rw [h] at hv; simp at hv; rw [hv]
        rw [hy]
        simp
      · cases hb
  unfold wpOpIn
  rw [ho]
  simp only
  rcases hs with ⟨h1, rfl⟩ | ⟨h1, ns, h2⟩
  · rw [hguard _ h1]
    simp only [Bool.false_eq_true, if_false]
    rw [← hrel.dst]
    refine ⟨fun _ _ => trivial, hK _ _ ?_⟩
    obtain ⟨F, μ, d1, d2, d3, d4, d5, d6⟩ := hR
    exact ⟨F, μ, by rw [xC7]; exact d1, by rw [xE2]; exact d2, d3, d4.put Keeps.refl (rv := undef) (show VRel F μ hf w (.tup []) undef from ⟨#[], rfl, rfl, by simp⟩) (fun t h => by rw [d2]; exact hrel.lt t (hrel.dst ▸ h)), d5, d6⟩
  · rw [hguard _ h1]
    simp only [if_true]
    refine op_wp (r := r) (lvl := lvl) (site := v.site) hR hrel.op hrel.lt h2 K (fun a' w' h => hK a' w' ?_)
    rw [hrel.dst]
    exact h
theorem xG0 {ops : Array Oper} {vs : List VOper} {R : Nat → Res} {Q : Exit → Act → World → Prop} (hrel : ∀ i o, ops[i]? = some o → ∃ v, vs[i]? = some v ∧ OperRel P nt ops vs i o v) : ∀ (l : List Nat) (tf : TF) (hf : HF) (a : Act) (w : World) (tf' : TF) (hf' : HF),
    (∀ i ∈ l, i < ops.size) → RS Γ nt tf hf a w → Run P lvl vs R l tf hf tf' hf' → (∀ a' w', RS Γ nt tf' hf' a' w' → Q .normal a' w') → wpOpsIn (FW ro) 0 P ops Q l a w
  | [], tf, hf, a, w, tf', hf', _, hR, hrun, hQ => by
    obtain ⟨rfl, rfl⟩ := hrun
    exact hQ a w hR
  | i :: l, tf, hf, a, w, tf', hf', hlt, hR, hrun, hQ => by
    obtain ⟨v, hv, hs, hrun⟩ := hrun
    have hi := hlt i (by simp)
    have ho : ops[i]? = some ops[i] := Array.getElem?_eq_getElem hi
    obtain ⟨v', hv', hr⟩ := hrel i _ ho
    rw [hv] at hv'
    cases hv'
    rw [wpOpsIn_cons]
    exact xMR ho hr hR hs (fun a' w' h => xG0 hrel l _ _ a' w' tf' hf' (fun j hj => hlt j (by simp [hj])) h hrun hQ)
theorem xKw {ops : Array Oper} {vs : List VOper} {R : Nat → Res} {Q : Exit → Act → World → Prop} (hrel : ∀ i o, ops[i]? = some o → ∃ v, vs[i]? = some v ∧ OperRel P nt ops vs i o v) (hlen : vs.length = ops.size)
    (hind : ∀ i j x y, i < j → vs[i]? = some x → vs[j]? = some y → i ∉ y.pre → x.apart y = true ∧ xIA (R i) (R j)) :
    ∀ (fuel : Nat) (listed : Array Bool) (tf : TF) (hf : HF) (a : Act) (w : World) (tf' : TF) (hf' : HF), listed.size = ops.size →
    ((List.range ops.size).filter fun i => !listed.getD i true).length ≤ fuel →
    (∀ j y, vs[j]? = some y → listed.getD j true = true → ∀ p ∈ y.pre, listed.getD p false = true) →
    RS Γ nt tf hf a w → Run P lvl vs R ((List.range ops.size).filter fun i => !listed.getD i true) tf hf tf' hf' → (∀ a' w', RS Γ nt tf' hf' a' w' → Q .normal a' w') → wpAnyIn (FW ro) 0 P .any ops Q fuel listed a w := by
  intro fuel
  have hedges : ∀ (listed : Array Bool) (i : Nat), i ∈ Region.ready .any ops listed ↔ i < ops.size ∧ listed.getD i true = false ∧ ∀ o, ops[i]? = some o → ∀ e ∈ o.after.toList, Region.binds .any e = true → listed.getD e.on false = true := by
    intro listed i
    simp only [Region.ready, List.mem_filter, List.mem_range, Bool.and_eq_true, Bool.not_eq_true']
    refine ⟨fun ⟨h1, h2, h3⟩ => ⟨h1, h2, fun o ho e he hb => ?_⟩, fun ⟨h1, h2, h3⟩ => ⟨h1, h2, ?_⟩⟩
    · rw [ho] at h3
      simp only [Option.map_some, Option.getD_some, Array.all_eq_true'] at h3
      have := h3 e (by simpa using he)
      simpa [hb] using this
    · have ho : ops[i]? = some ops[i] := Array.getElem?_eq_getElem h1
      rw [ho]
      simp only [Option.map_some, Option.getD_some, Array.all_eq_true']
      intro e he
      cases hb : Region.binds .any e with
      | false => rfl
      | true => simpa using h3 _ ho e (by simpa using he) hb
  have hfirst : ∀ (listed : Array Bool) (i : Nat) (l : List Nat), (List.range ops.size).filter (fun i => !listed.getD i true) = i :: l → i ∈ Region.ready .any ops listed := by
    intro listed i l hl
    have hmem : i ∈ (List.range ops.size).filter (fun i => !listed.getD i true) := by rw [hl]; simp
    rw [List.mem_filter, List.mem_range] at hmem
    rw [hedges]
    refine ⟨hmem.1, by simpa using hmem.2, fun o ho e he hb => ?_⟩
    obtain ⟨v, hv, hr⟩ := hrel i o ho
    have hlt := hr.edge e he hb
    cases hle : listed.getD e.on true with
    | false =>
      exfalso
      have hm2 : e.on ∈ (List.range ops.size).filter (fun i => !listed.getD i true) := by
        rw [List.mem_filter, List.mem_range]
        exact ⟨by omega, by rw [hle]; rfl⟩
      have hsort : ((List.range ops.size).filter (fun i => !listed.getD i true)).Pairwise (· < ·) := List.Pairwise.filter _ List.pairwise_lt_range
      rw [hl] at hm2 hsort
      rcases List.mem_cons.1 hm2 with h | h
      · omega
      · have := (List.pairwise_cons.1 hsort).1 _ h
        omega
    | true =>
      have hlt2 : e.on < ops.size := by omega
      by_cases hsz : e.on < listed.size
      · simpa [Array.getD, hsz] using hle
      · exact absurd hsz (by
          intro h
          have : listed.getD e.on false = false ∨ True := .inr trivial
          exact h (by
            apply Classical.byContradiction
            intro hn
            have h1 : i < ops.size := hmem.1
            have h2 := hmem.2
            have : ¬ i < listed.size ∨ i < listed.size := by omega
            rcases this with h3 | h3
            · simp [Array.getD, h3] at h2
            · omega))
  induction fuel with
  | zero =>
    intro listed tf hf a w tf' hf' hls hl hcl hR hrun hQ
    have hnil : (List.range ops.size).filter (fun i => !listed.getD i true) = [] := List.eq_nil_of_length_eq_zero (by omega)
    rw [hnil] at hrun
    obtain ⟨rfl, rfl⟩ := hrun
    refine ⟨?_, hQ a w hR⟩
    rw [List.eq_nil_iff_forall_not_mem]
    intro i hi
    obtain ⟨h1, h2, _⟩ := (hedges listed i).1 hi
    have : i ∈ (List.range ops.size).filter (fun i => !listed.getD i true) := by
      rw [List.mem_filter, List.mem_range]
      exact ⟨h1, by rw [h2]; rfl⟩
    rw [hnil] at this
    cases this
  | succ fuel ih =>
    intro listed tf hf a w tf' hf' hls hl hcl hR hrun hQ
    refine ⟨fun hnr => ?_, fun i hi => ?_⟩
    · cases hrem : (List.range ops.size).filter (fun i => !listed.getD i true) with
      | nil =>
        rw [hrem] at hrun
        obtain ⟨rfl, rfl⟩ := hrun
        exact hQ a w hR
      | cons i l =>
        have := hfirst listed i l hrem
        rw [hnr] at this
        cases this
    · obtain ⟨h1, h2, h3⟩ := (hedges listed i).1 hi
      have ho : ops[i]? = some ops[i] := Array.getElem?_eq_getElem h1
      obtain ⟨v, hv, hr⟩ := hrel i _ ho
      have himem : i ∈ (List.range ops.size).filter (fun i => !listed.getD i true) := by
        rw [List.mem_filter, List.mem_range]
        exact ⟨h1, by rw [h2]; rfl⟩
      obtain ⟨l1, l2, hsplit⟩ := List.append_of_mem himem
      have hsort : ((List.range ops.size).filter (fun i => !listed.getD i true)).Pairwise (· < ·) := List.Pairwise.filter _ List.pairwise_lt_range
      rw [hsplit] at hsort
      have hpre : ∀ p ∈ v.pre, listed.getD p false = true := by
        intro p hp
        obtain ⟨e, he, hb, h⟩ := hr.pre p hp
        have hle := h3 _ ho e he hb
        rcases h with rfl | ⟨u, hu, hpu⟩
        · exact hle
        · refine hcl e.on u hu ?_ p hpu
          by_cases hsz : e.on < listed.size
          · simpa [Array.getD, hsz] using hle
          · simp [Array.getD, hsz] at hle
      have hbefore : ∀ j ∈ l1, ∀ x y, vs[j]? = some x → vs[i]? = some y → x.apart y = true ∧ xIA (R j) (R i) := by
        intro j hj x y hx hy
        rw [hv] at hy
        cases hy
        have hji : j < i := by
          have := List.pairwise_append.1 hsort
          exact this.2.2 j hj i (by simp)
        refine hind j i x v hji hx hv (fun hp => ?_)
        have := hpre j hp
        have hjm : j ∈ (List.range ops.size).filter (fun i => !listed.getD i true) := by rw [hsplit]; simp [hj]
        rw [List.mem_filter, List.mem_range] at hjm
        have h4 := hjm.2
        by_cases hsz : j < listed.size
        · simp [Array.getD, hsz] at this h4
          rw [this] at h4
          cases h4
        · simp [Array.getD, hsz] at this
      rw [hsplit] at hrun
      obtain ⟨y, hy, hs, hrun'⟩ := hrun.front l1 l2 hbefore
      rw [hv] at hy
      cases hy
      have hisz : i < listed.size := by omega
      have hget : ∀ j d, (listed.setIfInBounds i true).getD j d = if j = i then true else listed.getD j d := by
        intro j d
        simp only [Array.getD_eq_getD_getElem?]
        by_cases hji : j = i
        · subst hji
          simp [hisz]
        · rw [Array.getElem?_setIfInBounds_ne (fun h => hji h.symm), if_neg hji]
      have hrem' : (List.range ops.size).filter (fun j => !(listed.setIfInBounds i true).getD j true) = l1 ++ l2 := by
        have hnd : (l1 ++ i :: l2).Nodup := by rw [← hsplit]; exact List.Pairwise.filter _ List.nodup_range
        have e1 : (List.range ops.size).filter (fun j => !(listed.setIfInBounds i true).getD j true) = ((List.range ops.size).filter (fun j => !listed.getD j true)).filter (fun j => !decide (j = i)) := by
          rw [List.filter_filter]
          congr 1
          funext j
          rw [hget]
          by_cases hji : j = i
          · simp [hji]
          · simp [hji]
        rw [e1, hsplit, List.filter_append]
        have hn := List.nodup_append.1 hnd
        have f1 : l1.filter (fun j => !decide (j = i)) = l1 := by
          rw [List.filter_eq_self]
          intro j hj
          have : j ≠ i := fun e => hn.2.2 j hj i (by simp) e
          simp [this]
        have f2 : (i :: l2).filter (fun j => !decide (j = i)) = l2 := by
          rw [List.filter_cons]
          simp only [decide_true, Bool.not_true, Bool.false_eq_true, if_false]
          rw [List.filter_eq_self]
          intro j hj
          have : j ≠ i := fun e => (List.nodup_cons.1 hn.2.1).1 (e ▸ hj)
          simp [this]
        rw [f1, f2]
      refine xMR ho hr hR hs (fun a' w' h => ih (listed.setIfInBounds i true) _ _ a' w' tf' hf' (by simpa using hls) ?_ ?_ h (by rw [hrem']; exact hrun') hQ)
      · rw [hrem']
        have : (l1 ++ i :: l2).length ≤ fuel + 1 := by rw [← hsplit]; exact hl
        simp at this ⊢
        omega
      · intro j y hy hlj p hp
        rw [hget] at hlj ⊢
        by_cases hji : j = i
        · subst hji
          rw [hv] at hy
          cases hy
          split
          · rfl
          · exact hpre p hp
        · rw [if_neg hji] at hlj
          split
          · rfl
          · exact hcl j y hy hlj p hp
end
end Go.V
set_option linter.unusedVariables false
set_option linter.unusedSimpArgs false
namespace Go.V
section
variable {F : Fence} {n : Nat} {P : Program} {b : Frame} {a : Act} {k : List Item} {cs : List Frame} {w : World} {Q : Exit → Act → World → Prop}
theorem xCL {c : Code} : step P (lone (b.atR a (.code (.scope c) :: k)) cs w) = .next (lone (b.atR a (.code c :: .inScope c :: k)) cs w) :=
  step_lone_go (by simp [stepG, stepG.exec, Frame.atR])
theorem xJH {c : Code} : step P (lone (b.atR a (.inScope c :: k)) cs w) = .next (lone (b.atR a k) cs w) :=
  step_lone_go (by simp [stepG, stepG.exec, Frame.atR])
theorem xDA {c : Code} (h : c.wpIn F n P (Exit.noGoto Q) a w) : (Code.scope c).wpIn F n P Q a w := by
  intro b k cs hro hb hr
  have h0 : (lone (b.atR a (.code (.scope c) :: k)) cs w).fenced P F := fenced_calm hb hr rfl
  obtain ⟨e, a₁, w₁, hq, harr⟩ := h b (.inScope c :: k) cs hro hb hr
  have hx : ∀ id, exitTo id (.inScope c :: k) = exitTo id k := fun id => by simp [exitTo]
  cases e with
  | normal => exact ⟨.normal, a₁, w₁, hq, .head h0 xCL (StepsIn.trans harr (.one (fenced_calm hb hr rfl) xJH))⟩
  | exit id =>
    exact ⟨.exit id, a₁, w₁, hq, fun k' hk => .head h0 xCL (harr.1 k' (by rw [hx]; exact hk)),
      fun hr' hk => let ⟨k₁, h1, h2⟩ := harr.2 hr' (by rw [hx]; exact hk); ⟨k₁, h1, .head h0 xCL h2⟩⟩
  | goto l => exact hq.elim
  | ret => exact ⟨_, a₁, w₁, hq, .of_steps (.one h0 xCL) harr⟩
  | panic ch => exact ⟨_, a₁, w₁, hq, .of_steps (.one h0 xCL) harr⟩
  | outgrown => exact ⟨_, a₁, w₁, hq, .of_steps (.one h0 xCL) harr⟩
end
theorem beqB_iff {b c : Bid} : beqB b c = true ↔ b = c := by
  cases b; cases c
  simp [beqB, Nat.beq_eq]
theorem beqN_iff {b c : Nat} : Nat.beq b c = true ↔ b = c := by simp [Nat.beq_eq]
theorem xBW (t' : Nat) (v : PV) (r : Tmps) (t : Nat) : tget ((t', v) :: r) t = if t' = t then some v else tget r t := by
  simp only [tget]
  split
  · rename_i h; rw [if_pos (beqN_iff.1 h)]
  · rename_i h; rw [if_neg (fun e => by rw [beqN_iff.2 e] at h; cases h)]
theorem xBA (t' : Bid) (v : Blk) (r : Heap) (t : Bid) : hget ((t', v) :: r) t = if t' = t then some v else hget r t := by
  simp only [hget]
  split
  · rename_i h; rw [if_pos (beqB_iff.1 h)]
  · rename_i h; rw [if_neg (fun e => by rw [beqB_iff.2 e] at h; cases h)]
theorem xDB (l : Tmps) (d : Nat) (v : PV) (t : Nat) : tget (tset l d v) t = if t = d then some v else tget l t := by
  rw [tset, xBW]
  by_cases h : d = t
  · simp [h]
  · rw [if_neg h, if_neg (fun e => h e.symm)]
theorem xA9 (l : Heap) (b : Bid) (B : Blk) (c : Bid) : hget (hset l b B) c = if c = b then some B else hget l c := by
  rw [hset, xBA]
  by_cases h : b = c
  · simp [h]
  · rw [if_neg h, if_neg (fun e => h e.symm)]
theorem xCo (l : Tmps) (d : Option Nat) (v : PV) : tget (tput l d v) = putF (tget l) d v := by
  funext t
  cases d with
  | none => rfl
  | some d => exact xDB l d v t
theorem xDL : ∀ (ws : List (Bid × Blk)) (h : Heap), hget (hput h ws) = xAj (hget h) ws
  | [], h => rfl
  | (b, B) :: ws, h => by
    simp only [hput, xAj, xDL ws]
    congr 1
    funext c
    exact xA9 h b B c
abbrev Foot := List Bid × List Bid
def foot (r : Res) : Foot := (r.ws.map (·.1), r.rd)
def xHJ (x y : Foot) : Bool := x.1.all (fun b => !y.1.contains b && !y.2.contains b) && y.1.all (fun b => !x.1.contains b && !x.2.contains b)
def xAx (pre : List Nat) (y : Foot) : Nat → List Foot → Bool
  | _, [] => true
  | i, x :: l => (pre.contains i || xHJ x y) && xAx pre y (i + 1) l
def xAz (P : Program) (draw : Bool) : List VOper → List Foot → St → (St → Prop) → Prop
  | [], _, s, K => K s
  | o :: os, acc, s, K =>
    (xCu o (tget s.tmps) = some false ∧ xAz P draw os (acc ++ [([], [])]) ⟨s.lvl, tput s.tmps o.dst (.tup []), s.heap⟩ K) ∨
    (xCu o (tget s.tmps) = some true ∧ ∃ (ns : List Nat) (r : Res), OpC P s.lvl o.site o.op ns (tget s.tmps) (hget s.heap) r ∧ (draw = true → xAx o.pre (foot r) 0 acc = true) ∧
      xAz P draw os (acc ++ [foot r]) ⟨s.lvl, tput s.tmps o.dst r.v, hput s.heap r.ws⟩ K)
theorem xEq (P : Program) : ∀ (vs : List VOper) (acc : List Foot) (s : St) (K : St → Prop), xAz P false (vs.map VOper.bare) acc s K → xAz P false vs acc s K
  | [], acc, s, K, h => h
  | o :: os, acc, s, K, h => by
    rcases h with ⟨h1, h2⟩ | ⟨h1, ns, r, h2, h3, h4⟩
    · exact .inl ⟨h1, xEq P os _ _ _ h2⟩
    · exact .inr ⟨h1, ns, r, h2, fun h => (by cases h), xEq P os _ _ _ h4⟩
def Imp (s s' : St) : Prop := ∀ (Γ : Ctx) (nt : Nat) (a : Act) (w : World), RS Γ nt (tget s.tmps) (hget s.heap) a w → RS Γ nt (tget s'.tmps) (hget s'.heap) a w
def vwp (P : Program) : VCode → (Exit → St → Prop) → St → Prop
  | .skip, Q, s => Q .normal s
  | .region _ draw vs, Q, s => xAz P draw vs [] s (Q .normal)
  | .seq a b, Q, s => vwp P a (fun e s' => match e with | .normal => vwp P b Q s' | e => Q e s') s
  | .cond c a b, Q, s => ∃ t, ev (tget s.tmps) c = some (.bool t) ∧ (t = true → vwp P a Q s) ∧ (t = false → vwp P b Q s)
  | .block id a, Q, s => vwp P a (fun e s' => match e with | .exit i => if i = id then Q .normal s' else Q (.exit i) s' | e => Q e s') s
  | .loop a, Q, s => ∃ (I : Nat → St → Prop) (n : Nat) (s0 : St), Imp s s0 ∧ I n s0 ∧ ∀ n s, I n s → vwp P a (fun e s' => match e with | .normal => ∃ m, m < n ∧ ∃ s'', Imp s' s'' ∧ I m s'' | e => Q e s') s
  | .exit id, Q, s => Q (.exit id) s
  | .scope a, Q, s => vwp P a (fun e s' => match e with | .goto _ => False | e => Q e s') s
  | .label _, Q, s => Q .normal s
  | .ret, Q, s => Q .ret s
  | .range _ _ _ _, _, _ => False
  | .bad, _, _ => False
section
variable {P : Program} {Γ : Ctx} {nt : Nat}
def lift (Γ : Ctx) (nt : Nat) (Q : Exit → St → Prop) : Exit → Act → World → Prop := fun e a w => ∃ s, Q e s ∧ RS Γ nt (tget s.tmps) (hget s.heap) a w
theorem xM5 {r s : Res} (h : xHJ (foot r) (foot s) = true) : xIA r s := by
  simp only [xHJ, foot, Bool.and_eq_true, List.all_eq_true, Bool.not_eq_true'] at h
  refine ⟨fun b hb ht => ?_, fun b hb ht => ?_⟩
  · have := h.1 b hb
    rcases ht with ht | ht
    · have h2 := this.2; simp at h2; exact h2 ht
    · have h1 := this.1; rw [List.contains_eq_mem] at h1; simp [keys] at ht; simp at h1; obtain ⟨B, hB⟩ := ht; exact h1 B hB
  · have := h.2 b hb
    rcases ht with ht | ht
    · have h2 := this.2; simp at h2; exact h2 ht
    · have h1 := this.1; simp [keys] at ht; simp at h1; obtain ⟨B, hB⟩ := ht; exact h1 B hB
theorem xI0 {pre : List Nat} {y : Foot} : ∀ (l : List Foot) (i : Nat), xAx pre y i l = true → ∀ k x, l[k]? = some x → i + k ∉ pre → xHJ x y = true
  | [], i, _, k, x, hx, _ => by simp at hx
  | z :: l, i, h, k, x, hx, hp => by
    simp only [xAx, Bool.and_eq_true, Bool.or_eq_true] at h
    cases k with
    | zero =>
      simp at hx
      subst hx
      rcases h.1 with h1 | h1
      · exact absurd (by simpa using h1) hp
      · exact h1
    | succ k => exact xI0 l (i + 1) h.2 k x (by simpa using hx) (by rwa [show i + 1 + k = i + (k + 1) from by omega])
theorem xIm {draw : Bool} {K : St → Prop} : ∀ (os : List VOper) (acc : List Foot) (s : St), xAz P draw os acc s K →
    ∃ (rs : List Res) (s' : St), rs.length = os.length ∧ K s' ∧
      (∀ (vs : List VOper) (R : Nat → Res) (i : Nat), (∀ k o, os[k]? = some o → vs[i + k]? = some o) → (∀ k r, rs[k]? = some r → R (i + k) = r) → Run P s.lvl vs R (List.range' i os.length) (tget s.tmps) (hget s.heap) (tget s'.tmps) (hget s'.heap)) ∧
      (draw = true → ∀ j o r, os[j]? = some o → rs[j]? = some r → ∀ k x, (acc ++ rs.map foot)[k]? = some x → k < acc.length + j → k ∉ o.pre → xHJ x (foot r) = true)
  | [], acc, s, h => ⟨[], s, rfl, h, fun _ _ _ _ _ => ⟨rfl, rfl⟩, by simp⟩
  | o :: os, acc, s, h => by
    have key : ∀ r : Res, OStep P s.lvl o (tget s.tmps) (hget s.heap) r → (draw = true → xAx o.pre (foot r) 0 acc = true) → xAz P draw os (acc ++ [foot r]) ⟨s.lvl, tput s.tmps o.dst r.v, hput s.heap r.ws⟩ K →
        ∃ (rs : List Res) (s' : St), rs.length = (o :: os).length ∧ K s' ∧
      (∀ (vs : List VOper) (R : Nat → Res) (i : Nat), (∀ k o', (o :: os)[k]? = some o' → vs[i + k]? = some o') → (∀ k r, rs[k]? = some r → R (i + k) = r) → Run P s.lvl vs R (List.range' i (o :: os).length) (tget s.tmps) (hget s.heap) (tget s'.tmps) (hget s'.heap)) ∧
      (draw = true → ∀ j o' r, (o :: os)[j]? = some o' → rs[j]? = some r → ∀ k x, (acc ++ rs.map foot)[k]? = some x → k < acc.length + j → k ∉ o'.pre → xHJ x (foot r) = true) := by
      intro r hs hcl he
      obtain ⟨rs, s', g1, g2, g3, g4⟩ := xIm os _ _ he
      refine ⟨r :: rs, s', by simp [g1], g2, fun vs R i hv hR => ?_, fun hd j o' r' ho hr k x hx hk hp => ?_⟩
      · have hR0 : R i = r := by simpa using hR 0 r rfl
        refine ⟨o, by simpa using hv 0 o rfl, by rw [hR0]; exact hs, ?_⟩
        rw [hR0, ← xCo, ← xDL]
        exact g3 vs R (i + 1) (fun k o' hk => by rw [show i + 1 + k = i + (k + 1) from by omega]; exact hv (k + 1) o' (by simpa using hk)) (fun k r hk => by rw [show i + 1 + k = i + (k + 1) from by omega]; exact hR (k + 1) r (by simpa using hk))
      · cases j with
        | zero =>
          simp at ho hr
          subst ho; subst hr
          have hk' : k < acc.length := by omega
          rw [List.getElem?_append_left hk'] at hx
          exact xI0 acc 0 (hcl hd) k x hx (by simpa using hp)
        | succ j =>
          refine g4 hd j o' r' (by simpa using ho) (by simpa using hr) k x ?_ (by simp; omega) hp
          simpa using hx
    rcases h with ⟨h1, h2⟩ | ⟨h1, ns, r, h2, h3, h4⟩
    · refine key ⟨.tup [], [], []⟩ (.inl ⟨h1, rfl⟩) (fun _ => ?_) h2
      have : ∀ (l : List Foot) (i : Nat), xAx o.pre (foot ⟨.tup [], [], []⟩) i l = true → True := fun _ _ _ => trivial
      clear this
      have : ∀ (l : List Foot) (i : Nat), xAx o.pre ([], []) i l = true := by
        intro l
        induction l with
        | nil => intro i; rfl
        | cons x l ih => intro i; simp [xAx, xHJ, ih]
      exact this acc 0
    · exact key r (.inr ⟨h1, ns, h2⟩) h3 h4
theorem xEU (n : Nat) : (List.range n).filter (fun i => !(Array.replicate n false).getD i true) = List.range n := by
  rw [List.filter_eq_self]
  intro i hi
  simp only [List.mem_range] at hi
  simp [Array.getD, hi]
theorem xOM {id : Nat} {ops : Array Oper} {draw : Bool} {vc : VCode} (hc : cmp P nt (.region id ops draw) = some vc) {Q : Exit → St → Prop} {s : St} (h : vwp P vc Q s) {a : Act} {w : World} (hR : RS Γ nt (tget s.tmps) (hget s.heap) a w) : (Code.region id ops draw).wpIn (FW Γ.ro) 0 P (lift Γ nt Q) a w := by
  simp only [cmp] at hc
  obtain ⟨vs, hvs, hc⟩ := bind_some hc
  split at hc
  · rename_i hd
    cases hc
    have h : xAz P draw vs [] s (Q .normal) := by
      cases draw with
      | true => exact h
      | false => exact xEq P vs _ _ _ h
    obtain ⟨hlen, hrel⟩ := xCi (P := P) (nt := nt) (id := id) (ops := ops) ops.toList 0 [] vs (by simpa using hvs) rfl
    have hrel' : ∀ i o, ops[i]? = some o → ∃ v, vs[i]? = some v ∧ OperRel P nt ops vs i o v := by
      intro i o ho
      obtain ⟨v, h1, h2⟩ := hrel i o (by simpa using ho)
      exact ⟨v, h1, by simpa using h2⟩
    have hlen' : vs.length = ops.size := by simpa using hlen
    obtain ⟨rs, s', g1, g2, g3, g4⟩ := xIm vs [] s h
    let R : Nat → Res := fun i => rs.getD i ⟨.tup [], [], []⟩
    have hRk : ∀ k r, rs[k]? = some r → R k = r := fun k r hk => by simp [R, List.getD, hk]
    have hrun := g3 vs R 0 (fun k o hk => by simpa using hk) (fun k r hk => by simpa using hRk k r hk)
    rw [← List.range_eq_range', hlen'] at hrun
    have fin : ∀ a' w', RS Γ nt (tget s'.tmps) (hget s'.heap) a' w' → lift Γ nt Q .normal a' w' := fun a' w' h => ⟨s', g2, h⟩
    cases draw with
    | false => exact wpIn_region (xG0 hrel' _ _ _ _ _ _ _ (fun i hi => List.mem_range.1 hi) hR hrun fin)
    | true =>
      obtain ⟨hm, hap⟩ := hd.resolve_left (by simp)
      refine wpIn_region_any hm (xKw hrel' hlen' (R := R) ?_ ops.size _ (tget s.tmps) (hget s.heap) a _ (tget s'.tmps) (hget s'.heap) (by simp) ?_ ?_ ?_ (by rw [xEU]; exact hrun) fin)
      · intro i j x y hij hx hy hp
        refine ⟨?_, ?_⟩
        · simp only [xR1, List.all_eq_true, List.mem_range] at hap
          have hj : j < vs.length := (List.getElem?_eq_some_iff.1 hy).1
          have := hap j hj i hij
          simp only [List.getD, hx, hy, Option.getD_some, Bool.or_eq_true] at this
          rcases this with h | h
          · exact absurd (by simpa using h) hp
          · exact h
        · have hj : j < vs.length := (List.getElem?_eq_some_iff.1 hy).1
          have hjr : rs[j]? = some rs[j] := List.getElem?_eq_getElem (by omega)
          have hir : rs[i]? = some rs[i] := List.getElem?_eq_getElem (by omega)
          rw [hRk j _ hjr, hRk i _ hir]
          exact xM5 (g4 rfl j y _ hy hjr i (foot rs[i]) (by simp [hir]) (by simpa using hij) hp)
      · rw [xEU]; simp
      · intro j y hy hl
        have hj : j < vs.length := (List.getElem?_eq_some_iff.1 hy).1
        simp [Array.getD, ← hlen', hj] at hl
      · obtain ⟨F, μ, d1, d2, d3, d4, d5, d6⟩ := hR
        have hs := d3.same (w' := { w with drawn := w.drawn + 1 }) rfl rfl rfl rfl
        exact ⟨F, μ, d1.keeps hs.2, d2, hs.1, (fun t p h => (d4 t p h).keeps hs.2), d5.tr hs.2, d6⟩
  · cases hc
theorem xPJ : ∀ (c : Code) (vc : VCode), cmp P nt c = some vc → ∀ (Q : Exit → St → Prop) (s : St), vwp P vc Q s → ∀ (a : Act) (w : World), RS Γ nt (tget s.tmps) (hget s.heap) a w → c.wpIn (FW Γ.ro) 0 P (lift Γ nt Q) a w := by
  intro c
  induction c with
  | skip => intro vc hc Q s h a w hR; cases hc; exact wpIn_skip ⟨s, h, hR⟩
  | region id ops draw => intro vc hc Q s h a w hR; exact xOM hc h hR
  | seq x y ihx ihy =>
    intro vc hc Q s h a w hR
    simp only [cmp] at hc
    obtain ⟨vx, hx, hc⟩ := bind_some hc
    obtain ⟨vy, hy, rfl⟩ := map_some hc
    refine wpIn_seq (wpIn_mono (ihx vx hx _ s h a w hR) ?_)
    rintro e a' w' ⟨s', hq, hR'⟩
    cases e with
    | normal => exact ihy vy hy Q s' hq a' w' hR'
    | _ => exact ⟨s', hq, hR'⟩
  | cond c x y ihx ihy =>
    intro vc hc Q s h a w hR
    simp only [cmp] at hc
    obtain ⟨c', hc', hc⟩ := bind_some hc
    obtain ⟨vx, hx, hc⟩ := bind_some hc
    obtain ⟨vy, hy, rfl⟩ := map_some hc
    obtain ⟨t, h1, h2, h3⟩ := h
    have hv : a.eval c = .bool t := by
      obtain ⟨F, μ, d1, d2, d3, d4, _, _⟩ := hR
      exact xCW (xAO d3 d4 hc' h1)
    exact wpIn_cond_split hv (fun e => ihx vx hx Q s (h2 e) a w hR) (fun e => ihy vy hy Q s (h3 e) a w hR)
  | block id x ih =>
    intro vc hc Q s h a w hR
    simp only [cmp] at hc
    obtain ⟨vx, hx, rfl⟩ := map_some hc
    refine wpIn_block (wpIn_mono (ih vx hx _ s h a w hR) ?_)
    rintro e a' w' ⟨s', hq, hR'⟩
    cases e with
    | exit i =>
      simp only [Exit.inBlock] at hq ⊢
      split
      · rename_i h1; rw [if_pos h1] at hq; exact ⟨s', hq, hR'⟩
      · rename_i h1; rw [if_neg h1] at hq; exact ⟨s', hq, hR'⟩
    | _ => exact ⟨s', hq, hR'⟩
  | loop x ih =>
    intro vc hc Q s h a w hR
    simp only [cmp] at hc
    obtain ⟨vx, hx, rfl⟩ := map_some hc
    obtain ⟨I, n, s0, h1, h2, h3⟩ := h
    refine wpIn_loop_ghost (fun n a w => ∃ s, I n s ∧ RS Γ nt (tget s.tmps) (hget s.heap) a w) n ⟨s0, h2, h1 _ _ _ _ hR⟩ ?_
    rintro n a w ⟨s, hI, hR⟩
    refine wpIn_mono (ih vx hx _ s (h3 n s hI) a w hR) ?_
    rintro e a' w' ⟨s', hq, hR'⟩
    cases e with
    | normal =>
      obtain ⟨m, hm, s'', hi, hI'⟩ := hq
      exact ⟨m, hm, s'', hI', hi _ _ _ _ hR'⟩
    | _ => exact ⟨s', hq, hR'⟩
  | exit id => intro vc hc Q s h a w hR; cases hc; exact wpIn_exit ⟨s, h, hR⟩
  | scope x ih =>
    intro vc hc Q s h a w hR
    simp only [cmp] at hc
    obtain ⟨vx, hx, rfl⟩ := map_some hc
    refine xDA (wpIn_mono (ih vx hx _ s h a w hR) ?_)
    rintro e a' w' ⟨s', hq, hR'⟩
    cases e with
    | goto l => exact hq.elim
    | _ => exact ⟨s', hq, hR'⟩
  | label l => intro vc hc Q s h a w hR; cases hc; exact wpIn_label ⟨s, h, hR⟩
  | ret => intro vc hc Q s h a w hR; cases hc; exact wpIn_ret ⟨s, h, hR⟩
  | goto l => intro vc hc Q s h; cases hc; exact h.elim
  | refuse m => intro vc hc Q s h; cases hc; exact h.elim
  | rangeFunc f ps x y _ _ =>
    intro vc hc Q s h
    simp only [cmp] at hc
    obtain ⟨_, _, hc⟩ := bind_some hc
    obtain ⟨_, _, hc⟩ := bind_some hc
    obtain ⟨_, _, rfl⟩ := map_some hc
    exact h.elim
end
structure CT (P : Program) (nt : Nat) (vc : VCode) (Q : Exit → St → Prop) (s : St) : Prop where
  run : ∀ (Γ : Ctx) (c : Code), cmp P nt c = some vc → ∀ (a : Act) (w : World), RS Γ nt (tget s.tmps) (hget s.heap) a w → c.wpIn (FW Γ.ro) 0 P (lift Γ nt Q) a w
end Go.V
set_option linter.unusedVariables false
set_option linter.unusedSimpArgs false
namespace Go.V
section
variable {P : Program} {Γ : Ctx} {g : Nat → Prop} {F F' F0 : Nat → Prop} {μ μ' M0 : Bid → Option Nat} {hf hf' H0 : HF} {w w' w0 : World} {a : Act} {tf : TF} {nt : Nat}
theorem xLI {k : Nat} (h : NC w k) : xA6 w k = 0 := by
  obtain ⟨o, h1, h2⟩ := h
  unfold xA6
  rw [h1]
  cases o <;> first | rfl | exact absurd rfl (h2.1 _ _ _)
theorem xFy {r k : Nat} {o o' : Obj} (h : w.heap[r]? = some o) (hn : NC w r) (hn' : (∀ c e f, o' ≠ .cells c e f) ∧ ∀ es n, o' ≠ .map es n) : xA6 (w.putObj r o') k = xA6 w k := by
  by_cases hk : k = r
  · subst hk
    rw [xLI hn]
    exact xLI ⟨o', World.putObj_heap_same (Array.getElem?_eq_some_iff.1 h).1, hn'⟩
  · exact xEE (World.putObj_heap_other hk)
theorem xIY {r : Nat} {o o' : Obj} (h : w.heap[r]? = some o) (hn : NC w r) (hF : ¬ F r) (hn' : (∀ c e f, o' ≠ .cells c e f) ∧ ∀ es n, o' ≠ .map es n) : KeepsG (fun k => k ≠ r) F μ hf w F μ hf (w.putObj r o') := by
  refine ⟨fun _ h => h, fun k hk => World.putObj_heap_other ?_, fun _ h => .inl h, fun b B hb => ⟨B, hb, rfl, Nat.le_refl _, fun _ => ⟨rfl, rfl, fun k _ => xFy h hn hn'⟩⟩⟩
  rcases hk with hk | hk
  · rintro rfl; exact hF hk
  · exact hk.1
theorem Inv.obj (hI : Inv Γ F μ hf w) {r : Nat} {o o' : Obj} (h : w.heap[r]? = some o) (hn : NC w r) (hF : ¬ F r) (hn' : (∀ c e f, o' ≠ .cells c e f) ∧ ∀ es n, o' ≠ .map es n) (hr : Γ.w0.heap.size ≤ r ∨ Γ.Wr r) : Inv Γ F μ hf (w.putObj r o') := by
  refine ⟨hI.os, hI.tape, hI.output, by rw [World.putObj_size]; exact hI.size, fun k hk hw => ?_, fun k hk => by rw [World.putObj_size]; exact hI.lt k hk, hI.F0, hI.new, fun b B hb => ?_, hI.inj, hI.own, hI.gl⟩
  · rw [World.putObj_heap_other, hI.frame k hk hw]
    rintro rfl
    rcases hr with h | h
    · omega
    · exact hw h
  · refine (hI.blk b B hb).keeps (xIY (μ := μ) (hf := hf) h hn hF hn') rfl (fun _ _ h => h) fun k hk => World.putObj_heap_other ?_
    rintro rfl
    obtain ⟨_, _, hc⟩ := (hI.blk b B hb).at hk
    exact hc hn
theorem KeepsG.obj (hK : KeepsG g F0 M0 H0 w0 F μ hf w) {r : Nat} {o o' : Obj} (h : w.heap[r]? = some o) (hn : NC w r) (hF : ¬ F r) (hn' : (∀ c e f, o' ≠ .cells c e f) ∧ ∀ es n, o' ≠ .map es n) (hr : g r → w0.heap.size ≤ r) : KeepsG g F0 M0 H0 w0 F μ hf (w.putObj r o') := by
  refine ⟨hK.sub, fun k hk => ?_, hK.fre, fun b B hb => ?_⟩
  · rw [World.putObj_heap_other, hK.mem k hk]
    rintro rfl
    rcases hk with hk | ⟨hg, o, ho, _⟩
    · exact hF (hK.sub _ hk)
    · have := (Array.getElem?_eq_some_iff.1 ho).1
      have := hr hg
      omega
  · obtain ⟨B', h1, h2, h3, h4⟩ := hK.ext b B hb
    refine ⟨B', h1, h2, h3, fun he => ?_⟩
    obtain ⟨q1, q2, q3⟩ := h4 he
    exact ⟨q1, q2, fun k hk => (xFy h hn hn').trans (q3 k hk)⟩
theorem TRel.obj (hT : TRel F μ hf w tf a) {r : Nat} {o o' : Obj} (h : w.heap[r]? = some o) (hn : NC w r) (hF : ¬ F r) (hn' : (∀ c e f, o' ≠ .cells c e f) ∧ ∀ es n, o' ≠ .map es n) : TRel F μ hf (w.putObj r o') tf a :=
  fun t p hp => (hT t p hp).keeps (xIY h hn hF hn')
theorem xEl {Fc : Fence} {n : Nat} {fn : Func} {tmps : Array Value} {R : Ending → World → Prop} (X : World → Prop) (base : Nat) (F : Nat → Prop)
    (hX : ∀ w r, X w → w.heap[r]? = some (.deferred (some [])) → base ≤ r → ¬ F r → X (w.putObj r (.deferred none)))
    (hfin : ∀ w, X w → ∃ v, (results fn tmps).run P w = .ok v w ∧ R (.returned v) w) :
    ∀ (rs : List Nat) (w : World), rs.Nodup → (∀ r ∈ rs, base ≤ r ∧ ¬ F r ∧ w.heap[r]? = some (.deferred (some []))) → X w → LeavesInM Fc n P fn tmps R (rs.map mark) .returning w
  | [], w, _, _, hx => hfin w hx
  | r :: rs, w, hnd, h, hx => by
    obtain ⟨h1, h2, h3⟩ := h r (by simp)
    refine ⟨by simp, .inl ⟨r, _, rfl, run_takeDeferred h3, ?_⟩⟩
    obtain ⟨hn1, hn2⟩ := List.nodup_cons.1 hnd
    refine xEl X base F hX hfin rs _ hn2 (fun r' hr' => ?_) (hX w r hx h3 h1 h2)
    obtain ⟨q1, q2, q3⟩ := h r' (by simp [hr'])
    refine ⟨q1, q2, ?_⟩
    rw [World.putObj_heap_other, q3]
    rintro rfl
    exact hn1 hr'
end
end Go.V
set_option linter.unusedVariables false
set_option linter.unusedSimpArgs false
namespace Go.V
inductive RV where
  | tmp (t : Nat)
  | cell (g : Bool) (n t : Nat)
  deriving Repr
def rsOf (P : Program) : List ResultVar → Option (List RV)
  | [] => some []
  | .tmp t :: r => (rsOf P r).map (.tmp t :: ·)
  | .cell a t :: r => (xC1 P t).bind fun g => (xA5 P t).bind fun n => (rsOf P r).map (.cell g n a :: ·)
def VF (P : Program) (f : Nat) : Option (Nat × VCode × List RV) :=
  (P.funcs[f]?).bind fun fn => if (fn.name == "runtime.NumGoroutine") = true then none else fn.body.bind fun c => (cmp P fn.ntmps c).bind fun vc => (rsOf P fn.results.toList).map fun rs => (fn.ntmps, vc, rs)
def xHM : Nat → List PV → Tmps
  | _, [] => []
  | i, p :: r => (i, p) :: xHM (i + 1) r
def xGJ : Nat → List Blk → Heap
  | _, [] => []
  | i, B :: r => (⟨0, i⟩, B) :: xGJ (i + 1) r
def rdR (tf : TF) (hf : HF) : RV → Option PV
  | .tmp t => tf t
  | .cell g n t => (vop 0 0 tf hf (.load g n (.t t))).map (·.v)
def rdT (tf : TF) (hf : HF) : List RV → Option (List PV)
  | [] => some []
  | t :: r => (rdR tf hf t).bind fun v => (rdT tf hf r).map (v :: ·)
def pack : List PV → PV
  | [v] => v
  | vs => .tup vs
def okN (n : Nat) : PV → Bool
  | .own b _ _ _ | .ptr b _ _ _ | .mapr b => b.lvl == 0 && decide (b.site < n)
  | _ => true
def okS (n : Nat) : PV → Bool
  | .fn _ cs => cs.all (okN n)
  | v => okN n v
def okA (n : Nat) : PV → Bool
  | .agg cs => cs.all (okS n)
  | v => okS n v
def okV (n : Nat) : PV → Bool
  | .tup vs => vs.all (okA n)
  | v => okA n v
def xB7 (n : Nat) (bs : List Bid) (b : Bid) : Bid := if b.site < n then ⟨0, b.site⟩ else (bs[b.site - n]?).getD b
def outH (σ : Bid → Bid) (n : Nat) (h : Heap) : Nat → List Blk → Prop
  | _, [] => True
  | i, C :: r => hget h (σ ⟨0, i⟩) = some (mapB σ C) ∧ (C.box = true → ∀ e ∈ C.els, ∀ c ∈ e, okS n c = true) ∧ outH σ n h (i + 1) r
def Out (rs : List RV) (n : Nat) (v : PV) (hout : List Blk) (s : St) : Prop :=
  ∃ bs : List Bid, bs.Nodup ∧ (∀ b ∈ bs, b.lvl ≠ 0) ∧ hout.length = n + bs.length ∧ outH (xB7 n bs) hout.length s.heap 0 hout ∧ okV hout.length v = true ∧ ∃ ps, rdT (tget s.tmps) (hget s.heap) rs = some ps ∧ pack ps = mapV (xB7 n bs) v
section
variable {F F' : Nat → Prop} {μ μ' : Bid → Option Nat} {hf hf' : HF} {w w' : World} {σ : Bid → Bid} {n : Nat}
theorem xNk {p : PV} {x : Value} (hn : ∀ i, i < n → xCj μ hf μ' hf' (σ ⟨0, i⟩) ⟨0, i⟩) (hok : okN n p = true) (h : PRel F μ hf w (mapN σ p) x) : PRel F μ' hf' w p x := by
  have key : ∀ b : Bid, (b.lvl == 0 && decide (b.site < n)) = true → xCj μ hf μ' hf' (σ b) b := by
    intro b hok
    simp only [Bool.and_eq_true, beq_iff_eq, decide_eq_true_eq] at hok
    have hbe : b = ⟨0, b.site⟩ := by cases b; simp_all
    have := hn b.site hok.2
    rwa [← hbe] at this
  cases p with
  | own b _ _ _ => exact OwnRel.named (fun _ _ => key b hok) h
  | ptr b _ _ _ => exact PtrRel.named (fun _ _ => key b hok) h
  | mapr b => exact MapRel.named (fun _ _ => key b hok) h
  | _ => exact h
theorem xHV {p : PV} {x : Value} (hn : ∀ i, i < n → xCj μ hf μ' hf' (σ ⟨0, i⟩) ⟨0, i⟩) (hok : okS n p = true) (h : SRel F μ hf w (mapS σ p) x) : SRel F μ' hf' w p x := by
  have one : okN n p = true → PRel F μ hf w (mapN σ p) x → PRel F μ' hf' w p x := fun a b => xNk hn a b
  cases p with
  | fn f cs =>
    obtain ⟨rc, rfl, hs, hr⟩ := h
    simp only [okS, List.all_eq_true] at hok
    refine ⟨rc, rfl, by simpa using hs, fun i q y a1 a2 => ?_⟩
    exact xNk hn (hok q (List.mem_of_getElem? a1)) (hr i _ y (by rw [List.getElem?_map, a1]; rfl) a2)
  | agg cs => exact h
  | tup cs => exact h
  | dead => exact h
  | _ => exact one hok h
theorem xNo {p : PV} {x : Value} (hn : ∀ i, i < n → xCj μ hf μ' hf' (σ ⟨0, i⟩) ⟨0, i⟩) (hok : okA n p = true) (h : ARel F μ hf w (mapA σ p) x) : ARel F μ' hf' w p x := by
  have one : okS n p = true → SRel F μ hf w (mapS σ p) x → SRel F μ' hf' w p x := fun a b => xHV hn a b
  cases p with
  | agg cs =>
    obtain ⟨rc, rfl, hs, hr⟩ := h
    simp only [okA, List.all_eq_true] at hok
    refine ⟨rc, rfl, by simpa using hs, fun i q y a1 a2 => ?_⟩
    exact xHV hn (hok q (List.mem_of_getElem? a1)) (hr i _ y (by rw [List.getElem?_map, a1]; rfl) a2)
  | _ => exact one hok h
theorem xS7 {p : PV} {x : Value} (hn : ∀ i, i < n → xCj μ hf μ' hf' (σ ⟨0, i⟩) ⟨0, i⟩) (hok : okV n p = true) (h : VRel F μ hf w (mapV σ p) x) : VRel F μ' hf' w p x := by
  have one : okA n p = true → ARel F μ hf w (mapA σ p) x → ARel F μ' hf' w p x := fun a b => xNo hn a b
  cases p with
  | tup cs =>
    obtain ⟨rc, rfl, hs, hr⟩ := h
    simp only [okV, List.all_eq_true] at hok
    refine ⟨rc, rfl, by simpa using hs, fun i q y a1 a2 => ?_⟩
    exact xNo hn (hok q (List.mem_of_getElem? a1)) (hr i _ y (by rw [List.getElem?_map, a1]; rfl) a2)
  | _ => exact one hok h
theorem xJN {p : PV} (h : closed (mapS σ p) = true) : mapS σ p = p := by
  cases p <;> first
    | rfl
    | (simp [mapS, mapN, closed] at h; done)
    | skip
  rename_i f cs
  cases cs with
  | nil => rfl
  | cons c r => simp [mapS, closed] at h
theorem xJa {p : PV} {es : List (List PV)} (h : mapS σ p = .mp es) : p = .mp es := by
  cases p <;> simp [mapS, mapN] at h ⊢ <;> exact h
theorem xII {C : Blk} {es : List (List PV)} (h : mapB σ C = xBF es) : C = xBF es := by
  have hb : C.box = true := by rw [← mapB_box (σ := σ), h]; rfl
  have he : (C.els.map fun e => e.map (mapS σ)) = [[.mp es], [.mp []]] := by
    have : (mapB σ C).els = C.els.map fun e => e.map (mapS σ) := by unfold mapB; rw [if_pos hb]
    rw [← this, h]; rfl
  have hf : C.frz = false := by rw [← xKX (σ := σ), h]; rfl
  have hz : C.esz = 1 := by rw [← mapB_esz (σ := σ), h]; rfl
  obtain ⟨box, frz, esz, els⟩ := C
  simp only at hb he hf hz
  subst hb; subst hf; subst hz
  match els with
  | [] => simp at he
  | [_] => simp at he
  | _ :: _ :: _ :: _ => simp at he
  | [e1, e2] =>
    simp only [List.map_cons, List.map_nil, List.cons.injEq, and_true] at he
    obtain ⟨g1, g2⟩ := he
    match e1, e2 with
    | [], _ => simp at g1
    | _ :: _ :: _, _ => simp at g1
    | _, [] => simp at g2
    | _, _ :: _ :: _ => simp at g2
    | [c1], [c2] =>
      simp only [List.map_cons, List.map_nil, List.cons.injEq, and_true] at g1 g2
      rw [xJa g1, xJa g2]
      rfl
theorem xTC {i : Nat} {C : Blk} (hn : ∀ i, i < n → xCj μ hf μ' hf' (σ ⟨0, i⟩) ⟨0, i⟩) (hi : i < n) (hok : C.box = true → ∀ e ∈ C.els, ∀ c ∈ e, okS n c = true)
    (h : BRel F μ hf w (σ ⟨0, i⟩) (mapB σ C)) : BRel F μ' hf' w ⟨0, i⟩ C := by
  rw [BRel, mapB_esz, xKX, mapB_box, mapB_len, ← (hn i hi).1] at h
  obtain ⟨h1, h2, h3, h4, h5⟩ := h
  have hel : ∀ (j : Nat) (e : List PV), C.els[j]? = some e → ∃ e', (mapB σ C).els[j]? = some e' ∧ (e' = e ∨ e' = e.map (mapS σ) ∧ C.box = true) := by
    intro j e he
    unfold mapB
    split
    · rename_i hbx
      exact ⟨_, by simp only [List.getElem?_map, he]; rfl, .inr ⟨rfl, hbx⟩⟩
    · exact ⟨e, he, .inl rfl⟩
  have hclosed : (C.box = false ∨ C.frz = true) → ∀ (j : Nat) (e : List PV), C.els[j]? = some e → ∀ c ∈ e, closed c = true := by
    intro hc j e he c hcm
    obtain ⟨e', he', h | ⟨h, _⟩⟩ := hel j e he
    · exact h3 hc e' (List.mem_of_getElem? he') c (h ▸ hcm)
    · have := h3 hc e' (List.mem_of_getElem? he') (mapS σ c) (by rw [h]; exact List.mem_map_of_mem hcm)
      rwa [xJN this] at this
  refine ⟨⟨h1.1, xDW h1.2 mapB_box.symm mapB_len.symm mapB_esz.symm (hn i hi).1 (fun _ _ => rfl)⟩, fun e he => ?_, fun hc e he => ?_, fun h => (h4 h).imp id fun ⟨es, e⟩ => ⟨es, xII e⟩, ?_⟩
  · obtain ⟨j, hj⟩ := List.mem_iff_getElem?.1 he
    obtain ⟨e', he', h | ⟨h, _⟩⟩ := hel j e hj
    · rw [← h]; exact h2 e' (List.mem_of_getElem? he')
    · have := h2 e' (List.mem_of_getElem? he')
      rw [h, List.length_map] at this
      exact this
  · obtain ⟨j, hj⟩ := List.mem_iff_getElem?.1 he
    exact hclosed hc j e hj
  · cases hm : μ' ⟨0, i⟩ with
    | none =>
      rw [hm] at h5
      refine ⟨?_, h5.2⟩
      have : C.els.length = 0 := by rw [← mapB_len (σ := σ), h5.1]; rfl
      exact List.eq_nil_of_length_eq_zero this
    | some k =>
      rw [hm] at h5
      obtain ⟨f1, f2, h5⟩ := h5
      rcases h5 with ⟨c, e, fz, hc, hfz, hl, hr⟩ | ⟨es, xs, m, q1, q2, q3⟩
      rotate_left
      · exact ⟨f1, f2, .inr ⟨es, xs, m, xII q1, q2, q3⟩⟩
      rw [mapB_len, mapB_esz] at hl
      rw [mapB_esz] at hr
      refine ⟨f1, f2, .inl ⟨c, e, fz, hc, hfz, hl, fun a b el p a1 a2 => ?_⟩⟩
      obtain ⟨e', he', h | ⟨h, hbx⟩⟩ := hel a el a1
      · obtain ⟨x, hx, hs⟩ := hr a b e' p he' (h ▸ a2)
        refine ⟨x, hx, ?_⟩
        cases hbx : C.box with
        | true =>
          have hpe : mapB σ C = { C with els := C.els.map fun e => e.map (mapS σ) } := by unfold mapB; rw [if_pos hbx]
          rw [hpe] at he'
          simp only [List.getElem?_map, a1, Option.map_some, Option.some.injEq] at he'
          have hpp : mapS σ p = p := by
            have h6 : el.map (mapS σ) = el := he'.trans h
            have h7 := congrArg (fun l => l[b]?) h6
            simp only [List.getElem?_map, a2, Option.map_some, Option.some.injEq] at h7
            exact h7
          exact xHV hn (hok hbx el (List.mem_of_getElem? a1) p (List.mem_of_getElem? a2)) (by rw [hpp]; exact hs)
        | false =>
          have hcl := hclosed (.inl hbx) a el a1 p (List.mem_of_getElem? a2)
          exact (SRel.of_closed hcl).2 ((SRel.of_closed hcl).1 hs)
      · obtain ⟨x, hx, hs⟩ := hr a b e' (mapS σ p) he' (by rw [h, List.getElem?_map, a2]; rfl)
        exact ⟨x, hx, xHV hn (hok hbx el (List.mem_of_getElem? a1) p (List.mem_of_getElem? a2)) hs⟩
end
section
variable {P : Program}
theorem xGX : ∀ (args : List PV) (i t : Nat) (p : PV), tget (xHM i args) t = some p → i ≤ t ∧ args[t - i]? = some p
  | [], i, t, p, h => by cases h
  | q :: args, i, t, p, h => by
    simp only [xHM, xBW] at h
    split at h
    · rename_i he
      subst he
      cases h
      simp
    · obtain ⟨h1, h2⟩ := xGX args (i + 1) t p h
      refine ⟨by omega, ?_⟩
      rw [show t - i = (t - (i + 1)) + 1 from by omega]
      simpa using h2
theorem xIg : ∀ (hin : List Blk) (i : Nat) (b : Bid), hget (xGJ i hin) b = if b.lvl = 0 ∧ i ≤ b.site then hin[b.site - i]? else none
  | [], i, b => by simp [xGJ, hget]
  | B :: hin, i, b => by
    simp only [xGJ, xBA]
    by_cases h : (⟨0, i⟩ : Bid) = b
    · subst h
      simp
    · rw [if_neg h, xIg hin (i + 1) b]
      by_cases h1 : b.lvl = 0 ∧ i + 1 ≤ b.site
      · rw [if_pos h1, if_pos ⟨h1.1, by omega⟩]
        rw [show b.site - i = (b.site - (i + 1)) + 1 from by omega]
        simp
      · rw [if_neg h1]
        by_cases h2 : b.lvl = 0 ∧ i ≤ b.site
        · exfalso
          apply h
          have : b.site = i := by
            apply Classical.byContradiction
            intro h3
            exact h1 ⟨h2.1, by omega⟩
          cases b
          simp_all
        · rw [if_neg h2]
theorem xEn (hin : List Blk) : hget (xGJ 0 hin) = resH hin := by
  funext b
  rw [xIg]
  simp [resH]
theorem xNa {σ : Bid → Bid} {n : Nat} {h : Heap} : ∀ {l : List Blk} {i : Nat}, outH σ n h i l → ∀ (k : Nat) (C : Blk), l[k]? = some C → hget h (σ ⟨0, i + k⟩) = some (mapB σ C) ∧ (C.box = true → ∀ e ∈ C.els, ∀ c ∈ e, okS n c = true)
  | [], i, _, k, C, hC => by simp at hC
  | B :: l, i, h, k, C, hC => by
    obtain ⟨h1, h2, h3⟩ := h
    cases k with
    | zero => simp at hC; subst hC; exact ⟨h1, h2⟩
    | succ k =>
      have := xNa h3 k C (by simpa using hC)
      rwa [show i + 1 + k = i + (k + 1) from by omega] at this
theorem xTG {Γ : Ctx} {F : Nat → Prop} {μ : Bid → Option Nat} {hf : HF} {w : World} (hI : Inv Γ F μ hf w) {p : PV} {x : Value} {t : TypeId} {g : Bool} {n : Nat} {r : Res} {tf : TF} {m : Nat} (hv : VRel F μ hf w p x) (hp : tf m = some p) (hg : xC1 P t = some g) (hn : xA5 P t = some n)
    (hr : vop 0 0 tf hf (.load g n (.t m)) = some r) : ∃ rv, (do loadVar t (← asAddr x) : Sem Value).run P w = .ok rv w ∧ VRel F μ hf w r.v rv := by
  obtain ⟨p', hp', hr⟩ := bind_some hr
  have : p' = p := by
    have h : tf m = some p' := hp'
    rw [hp] at h
    cases h; rfl
  subst this
  have fin : ∀ (k off : Nat) (e : List PV) (j : Nat) (f : Nat → Value), x = .pointer (some ⟨k, off + j, none⟩) →
      (∀ j' q, e[j']? = some q → w.cell? ⟨k, off + j', none⟩ = some (f j') ∧ SRel F μ hf w q (f j')) →
      (if g then (j + n ≤ e.length ∧ r.v = .agg ((e.drop j).take n)) else (e[j]? = some r.v)) → ∃ rv, (do loadVar t (← asAddr x) : Sem Value).run P w = .ok rv w ∧ VRel F μ hf w r.v rv := by
    intro k off e j f ha hcell hres
    have hrun : ∀ f' : Nat → Value, (∀ j', j' < (if g then n else 1) → w.cell? ⟨k, off + j + j', none⟩ = some (f' j')) → (do loadVar t (← asAddr x) : Sem Value).run P w = .ok (if g then .agg ((List.range n).map f').toArray else f' 0) w := by
      intro f' hf'
      have := xFM (P := P) (w := w) (k := k) (o := off + j) hg hn f' hf'
      simp [ha, asAddr, this]
    cases g with
    | true =>
      simp only [if_true] at hres hrun
      obtain ⟨hle, hrv⟩ := hres
      refine ⟨_, hrun (fun j' => f (j + j')) (fun j' hj' => ?_), ?_⟩
      · have := (hcell (j + j') (e[j + j']'(by omega)) (List.getElem?_eq_getElem (by omega))).1
        rw [Nat.add_assoc]; exact this
      · rw [hrv]
        refine ⟨_, rfl, by simp; omega, fun i q y h1 h2 => ?_⟩
        rw [List.getElem?_take, List.getElem?_drop] at h1
        split at h1
        · rename_i hlt
          have hy : y = f (j + i) := by simp [hlt] at h2; exact h2.symm
          rw [hy]
          exact (hcell _ _ h1).2
        · cases h1
    | false =>
      simp only [Bool.false_eq_true, if_false] at hres hrun
      obtain ⟨h1, h2⟩ := hcell j _ hres
      refine ⟨_, hrun (fun _ => f j) (fun j' hj' => ?_), VRel.of_S' h2⟩
      have : j' = 0 := by omega
      subst this
      exact h1
  split at hr
  · rename_i b hw i j
    obtain ⟨B, hb, hr⟩ := bind_some hr
    obtain ⟨e, he, hr⟩ := bind_some hr
    split at hr
    · cases hr
    · rename_i hcur
      simp only [ne_eq, Decidable.not_not] at hcur
      obtain ⟨_, B0, hb0, hle0, hptr⟩ := xEN hv
      rw [hb] at hb0
      cases hb0
      have hBk := hI.blk b B hb
      have hB := hBk.2.2.2.2
      cases hm : μ b with
      | none =>
        rw [hm] at hB
        rw [hB.1] at he
        simp at he
      | some k =>
        obtain ⟨_, _, c, e0, fz, hc, _, _, hrel⟩ := hBk.cells hm (hBk.one hcur hle0)
        have ha := hptr hcur k hm
        refine fin k (i * B.esz) e j (fun j' => (c[i * B.esz + j']?).getD undef) ha (fun j' q hq => ?_) ?_
        · obtain ⟨y, hy, hs⟩ := hrel i j' e q he hq
          simp only [hy, Option.getD_some]
          exact ⟨by rw [cell_of_row w k _ c e0 fz hc]; exact hy, hs⟩
        · cases g with
          | true =>
            simp only [if_true] at hr ⊢
            split at hr
            · cases hr; exact ⟨by assumption, rfl⟩
            · cases hr
          | false =>
            simp only [Bool.false_eq_true, if_false] at hr ⊢
            obtain ⟨v, hv', rfl⟩ := map_some hr
            exact hv'
  · rename_i l i j
    obtain ⟨e, he, hr⟩ := bind_some hr
    have hC := xFB hv
    cases hC with
    | sptr _ _ _ k off esz gg hF hesz hlen hc hrr =>
      refine fin k (off + i * esz) e j (fun j' => gg i j') rfl (fun j' q hq => ⟨hc i j' e q he hq, ?_⟩) ?_
      · have hC := hrr i j' e q he hq
        exact (SRel.of_closed hC.closed).2 hC
      · cases g with
        | true =>
          simp only [if_true] at hr ⊢
          split at hr
          · cases hr; exact ⟨by assumption, rfl⟩
          · cases hr
        | false =>
          simp only [Bool.false_eq_true, if_false] at hr ⊢
          obtain ⟨v, hv', hr⟩ := bind_some hr
          cases hr
          exact hv'
  · cases hr
def rdM (tmps : Array Value) : ResultVar → Sem Value
  | .tmp t => pure (tmps.getD t undef)
  | .cell a t => do loadVar t (← asAddr (tmps.getD a undef))
theorem xQA {Γ : Ctx} {F : Nat → Prop} {μ : Bid → Option Nat} {hf : HF} {w : World} {a : Act} {tf : TF} (hI : Inv Γ F μ hf w) (hT : TRel F μ hf w tf a) : ∀ {l : List ResultVar} {rs : List RV} {ps : List PV}, rsOf P l = some rs → rdT tf hf rs = some ps →
    ∃ vs : List Value, (l.mapM (rdM a.tmps)).run P w = .ok vs w ∧ vs.length = ps.length ∧ ∀ (i : Nat) (p : PV) (v : Value), ps[i]? = some p → vs[i]? = some v → VRel F μ hf w p v
  | [], rs, ps, h1, h2 => by cases h1; cases h2; exact ⟨[], by simp, rfl, by simp⟩
  | r :: l, rs, ps, h1, h2 => by
    have one : ∃ r' rs', rs = r' :: rs' ∧ rsOf P l = some rs' ∧ ∀ p, rdR tf hf r' = some p → ∃ rv, (rdM a.tmps r).run P w = .ok rv w ∧ VRel F μ hf w p rv := by
      cases r with
      | tmp t =>
        obtain ⟨q, hq, rfl⟩ := map_some h1
        exact ⟨_, _, rfl, hq, fun p hp => ⟨_, rfl, hT t p hp⟩⟩
      | cell c t =>
        obtain ⟨g, hg, h1⟩ := bind_some h1
        obtain ⟨n, hn, h1⟩ := bind_some h1
        obtain ⟨q, hq, rfl⟩ := map_some h1
        refine ⟨_, _, rfl, hq, fun p hp => ?_⟩
        obtain ⟨res, hres, rfl⟩ := map_some hp
        obtain ⟨p0, hp0, _⟩ := bind_some hres
        exact xTG hI (hT c p0 hp0) hp0 hg hn hres
    obtain ⟨r', rs', rfl, hrs, hone⟩ := one
    obtain ⟨p, hp, h2⟩ := bind_some h2
    obtain ⟨q, hq, rfl⟩ := map_some h2
    obtain ⟨rv, hrun, hrel⟩ := hone p hp
    obtain ⟨vs, g1, g2, g3⟩ := xQA hI hT hrs hq
    refine ⟨rv :: vs, ?_, by simp [g2], fun i p v a1 a2 => ?_⟩
    · simp [List.mapM_cons, hrun, g1]
    · cases i with
      | zero => cases a1; cases a2; exact hrel
      | succ i => exact g3 i p v (by simpa using a1) (by simpa using a2)
theorem xOi (fn : Func) (tmps : Array Value) : results fn tmps = (do let vs ← fn.results.mapM (rdM tmps); pure (if h : vs.size = 1 then vs[0] else .tuple vs)) := by
  unfold results
  have : (fun r : ResultVar => (match r with | .tmp t => pure (tmps.getD t undef) | .cell a t => do loadVar t (← asAddr (tmps.getD a undef)) : Sem Value)) = rdM tmps := by
    funext r
    cases r <;> rfl
  rw [← this]
  rfl
def packV : List Value → Value
  | [v] => v
  | vs => .tuple vs.toArray
theorem xH1 {fn : Func} {tmps : Array Value} {w : World} {vs : List Value} (h : (fn.results.toList.mapM (rdM tmps)).run P w = .ok vs w) : (results fn tmps).run P w = .ok (packV vs) w := by
  rw [xOi, Array.mapM_eq_mapM_toList]
  simp only [Sem.run_bind, map_eq_pure_bind, h, Result.andThen_ok, Sem.run_pure]
  clear h
  match vs with
  | [] => rfl
  | [v] => rfl
  | a :: b :: l => rfl
theorem xFU {f : Nat} {fn : Func} (hf : P.funcs[f]? = some fn) (hn : ¬ (fn.name == "runtime.NumGoroutine") = true) {c : Code} (hb : fn.body = some c) (as : Array Value) (w : World) : (callFunc f as).run P w = .ok (.enter f as) w := by
  have hn' : (fn.name == "runtime.NumGoroutine") = false := by simpa using hn
  simp only [callFunc]
  simp [hf, hn', hb]
  simpa using hn'
theorem xUk {F : Nat → Prop} {μ : Bid → Option Nat} {hf : HF} {w : World} {p : PV} {x : Value} (h : VRel F μ hf w p x) (hp : ∀ vs, p ≠ .tup vs) : ARel F μ hf w p x := by
  cases p <;> first
    | exact h
    | exact (hp _ rfl).elim
theorem xBV {f nt : Nat} {vc : VCode} {rs : List RV} {args : List PV} {hin : List Blk} {v : PV} {hout : List Blk} (hvf : VF P f = some (nt, vc, rs)) 
    (h : CT P nt vc (fun e s => (e = .normal ∨ e = .ret) ∧ Out rs hin.length v hout s) ⟨1, xHM 0 args, xGJ 0 hin⟩) (hlen : args.length ≤ nt) (hnt : ∀ vs, v = .tup vs → ∀ p ∈ vs, ∀ q, p ≠ .tup q) : VC P f args hin v hout := by
  obtain ⟨fn, hfn, hvf⟩ := bind_some hvf
  split at hvf
  · cases hvf
  rename_i hname
  obtain ⟨c, hc, hvf⟩ := bind_some hvf
  obtain ⟨vc', hvc, hvf⟩ := bind_some hvf
  obtain ⟨rs', hrs', hvf⟩ := map_some hvf
  simp only [Prod.mk.injEq] at hvf
  obtain ⟨rfl, rfl, rfl⟩ := hvf
  refine ⟨xFU hfn hname hc, fun w F μ rargs hI hsz hargs => callsIn_wide.1 (callsIn_of_wp_marks (F := Fence.wide) (n := 0) hfn hc trivial ?_)⟩
  have hR : RS (Ctx.of w F (WrOf μ hin.length) μ (resH hin)) fn.ntmps (tget (xHM 0 args)) (hget (xGJ 0 hin)) { tmps := rargs ++ Array.replicate (fn.ntmps - rargs.size) undef, defers := [] } w := by
    refine ⟨F, μ, Marks.nil, by simp; omega, by rw [xEn]; exact hI, fun t p hp => ?_, by rw [xEn]; exact KeepsG.refl, fun b B hb => ?_, Nat.le_refl _, fun l h => by cases h⟩
    · obtain ⟨_, h2⟩ := xGX args 0 t p hp
      rw [Nat.sub_zero] at h2
      have hlt := (List.getElem?_eq_some_iff.1 h2).1
      have hx : rargs[t]? = some rargs[t] := Array.getElem?_eq_getElem (by omega)
      have := hargs t p _ h2 hx
      rw [xEn]
      have e : (rargs ++ Array.replicate (fn.ntmps - rargs.size) undef).getD t undef = rargs[t] := by
        rw [Array.getD_eq_getD_getElem?, Array.getElem?_append_left (by omega), hx]
        rfl
      rw [e]
      exact this
    · simp only [resH] at hb
      split at hb
      · assumption
      · cases hb
  refine wpIn_mono (h.run _ c hvc _ w hR) ?_
  rintro e a' w'' ⟨s, ⟨he, bs, hbnd, hblv, hol, hoh, hokv, ps, hps, hpk⟩, F', μ0, hdef, hnt', hI'', hT', hK'', hlv⟩
  suffices hfin : ∀ w', Inv (Ctx.of w F (WrOf μ hin.length) μ (resH hin)) F' μ0 (hget s.heap) w' ∧ TRel F' μ0 (hget s.heap) w' (tget s.tmps) a' ∧ Keeps F μ (resH hin) w F' μ0 (hget s.heap) w' →
      ∃ rv, (results fn a'.tmps).run P w' = .ok rv w' ∧ ∃ rv' F'' μ'', Ending.returned rv = .returned rv' ∧ Inv (Ctx.of w F (WrOf μ hin.length) μ (resH hin)) F'' μ'' (resH hout) w' ∧ Keeps F μ (resH hin) w F'' μ'' (resH hout) w' ∧ VRel F'' μ'' (resH hout) w' v rv' by
    obtain ⟨rl, hrn, hrd, hrm⟩ := hdef
    have hl := xEl (P := P) (Fc := Fence.wide) (n := 0) (fn := fn) (tmps := a'.tmps) (R := fun e w' => ∃ rv F' μ', e = .returned rv ∧ Inv (Ctx.of w F (WrOf μ hin.length) μ (resH hin)) F' μ' (resH hout) w' ∧ Keeps F μ (resH hin) w F' μ' (resH hout) w' ∧ VRel F' μ' (resH hout) w' v rv) _ w.heap.size F' (fun w2 r hx h3 h1 h2 => ?_) hfin rl w'' hrn hrm ⟨hI'', hT', hK''.mono fun _ _ h => h⟩
    · rw [← hrd] at hl
      rcases he with rfl | rfl
      · exact hl
      · exact hl
    · have hn := xFd h3
      exact ⟨hx.1.obj h3 hn h2 (by simp) (.inl h1), hx.2.1.obj h3 hn h2 (by simp), hx.2.2.obj h3 hn h2 (by simp) fun _ => h1⟩
  rintro w' ⟨hI', hT, hK⟩
  have hsig : ∀ i, i < hout.length → (i < hin.length → xB7 hin.length bs ⟨0, i⟩ = ⟨0, i⟩) ∧ (hin.length ≤ i → bs[i - hin.length]? = some (xB7 hin.length bs ⟨0, i⟩)) := by
    intro i hi
    refine ⟨fun h => by simp [xB7, h], fun h => ?_⟩
    have hlt : i - hin.length < bs.length := by omega
    have : ¬ i < hin.length := by omega
    simp [xB7, this, List.getElem?_eq_getElem hlt]
  have hinj : ∀ i j, i < hout.length → j < hout.length → xB7 hin.length bs ⟨0, i⟩ = xB7 hin.length bs ⟨0, j⟩ → i = j := by
    intro i j hi hj hij
    by_cases h1 : i < hin.length
    · by_cases h2 : j < hin.length
      · rw [(hsig i hi).1 h1, (hsig j hj).1 h2] at hij
        simpa using hij
      · have e2 := (hsig j hj).2 (by omega)
        rw [← hij, (hsig i hi).1 h1] at e2
        exact absurd rfl (hblv _ (List.mem_of_getElem? e2))
    · have e1 := (hsig i hi).2 (by omega)
      by_cases h2 : j < hin.length
      · rw [hij, (hsig j hj).1 h2] at e1
        exact absurd rfl (hblv _ (List.mem_of_getElem? e1))
      · have e2 := (hsig j hj).2 (by omega)
        rw [← hij] at e2
        have := (List.getElem?_inj (by omega) hbnd).1 (e1.trans e2.symm)
        omega
  generalize hσ : xB7 hin.length bs = σ at *
  have hgt := xNa hoh
  let μ2 : Bid → Option Nat := fun b => if b.lvl = 0 then μ0 (σ b) else none
  have hmem : ∀ (i : Nat) (C : Blk), hout[i]? = some C → resH hout ⟨0, i⟩ = some C := fun i C h => by simpa [resH] using h
  have hnamed : ∀ i, i < hout.length → xCj μ0 (hget s.heap) μ2 (resH hout) (σ ⟨0, i⟩) ⟨0, i⟩ := by
    intro i hi
    refine ⟨by simp [μ2], fun B hB => ?_⟩
    have hC := List.getElem?_eq_getElem hi
    have := (hgt i _ hC).1
    rw [Nat.zero_add] at this
    rw [this] at hB
    cases hB
    exact ⟨_, hmem i _ hC, mapB_box.symm, mapB_len.symm, mapB_esz.symm⟩
  have hof : ∀ b C, resH hout b = some C → b = ⟨0, b.site⟩ ∧ b.site < hout.length ∧ hout[b.site]? = some C := by
    intro b C hb
    simp only [resH] at hb
    split at hb
    · rename_i h0
      exact ⟨by cases b; simp_all, (List.getElem?_eq_some_iff.1 hb).1, hb⟩
    · cases hb
  have hInv : Inv (Ctx.of w F (WrOf μ hin.length) μ (resH hin)) F' μ2 (resH hout) w' := by
    refine ⟨hI'.os, hI'.tape, hI'.output, hI'.size, hI'.frame, hI'.lt, hI'.F0, hI'.new, fun b C hb => ?_, fun b b' B1 B2 k h1 h2 m1 m2 => ?_, fun b C k hb hm => ?_, hI'.gl⟩
    · obtain ⟨hbe, hlt, hC⟩ := hof b C hb
      obtain ⟨g1, g2⟩ := hgt _ C hC
      rw [Nat.zero_add] at g1
      rw [hbe]
      exact xTC hnamed hlt g2 (hI'.blk _ _ g1)
    · obtain ⟨e1, l1, c1⟩ := hof b B1 h1
      obtain ⟨e2, l2, c2⟩ := hof b' B2 h2
      rw [e1] at m1
      rw [e2] at m2
      have g1 := (hgt _ _ c1).1
      have g2 := (hgt _ _ c2).1
      rw [Nat.zero_add] at g1 g2
      have := hI'.inj _ _ _ _ k g1 g2 (by simpa [μ2] using m1) (by simpa [μ2] using m2)
      rw [e1, e2, hinj _ _ l1 l2 this]
    · obtain ⟨e1, l1, c1⟩ := hof b C hb
      rw [e1] at hm
      have g1 := (hgt _ _ c1).1
      rw [Nat.zero_add] at g1
      exact hI'.own _ _ k g1 (by simpa [μ2] using hm)
  have hKeep : Keeps F μ (resH hin) w F' μ2 (resH hout) w' := by
    refine ⟨hK.sub, hK.mem, hK.fre, fun b B hb => ?_⟩
    obtain ⟨B', hB', q1, q2, q3⟩ := hK.ext b B hb
    have hb0 : b = ⟨0, b.site⟩ ∧ b.site < hin.length := by
      simp only [resH] at hb
      split at hb
      · exact ⟨by cases b; simp_all, (List.getElem?_eq_some_iff.1 hb).1⟩
      · cases hb
    have hlt : b.site < hout.length := by omega
    have hC := List.getElem?_eq_getElem hlt
    have g1 := (hgt _ _ hC).1
    have hs := (hsig b.site hlt).1 hb0.2
    rw [Nat.zero_add, hs, ← hb0.1, hB'] at g1
    cases g1
    rw [mapB_box] at q1
    rw [mapB_len] at q2 q3
    rw [mapB_esz] at q3
    have hmu : μ2 b = μ0 b := by
      show (if b.lvl = 0 then μ0 (σ b) else none) = _
      rw [hb0.1, hs]
      simp
    refine ⟨_, (congrArg (resH hout) hb0.1).trans (hmem _ _ hC), q1, q2, ?_⟩
    rw [hmu]
    exact q3
  obtain ⟨vs, r1, r2, r3⟩ := xQA hI' hT hrs' hps
  have hres : ∃ rv, (results fn a'.tmps).run P w' = .ok rv w' ∧ VRel F' μ0 (hget s.heap) w' (pack ps) rv := by
    refine ⟨_, xH1 r1, ?_⟩
    match ps, vs, r2, r3, hpk with
    | [p], [x], _, r3, _ => exact r3 0 p x rfl rfl
    | [], [], _, _, _ => exact ⟨#[], rfl, rfl, by simp⟩
    | p :: q :: ps, x :: y :: vs, r2, r3, hpk =>
      refine ⟨_, rfl, (by simpa using r2), fun i z u a1 a2 => xUk (r3 i z u a1 (by simpa using a2)) fun qs hq => ?_⟩
      subst hq
      simp only [pack] at hpk
      have hpm : PV.tup qs ∈ p :: q :: ps := List.mem_of_getElem? a1
      cases v with
      | tup us =>
        simp only [mapV, PV.tup.injEq] at hpk
        rw [hpk, List.mem_map] at hpm
        obtain ⟨p0, hp0, he⟩ := hpm
        cases p0 <;> (try (simp [mapA, mapS, mapN] at he; done))
        exact hnt us rfl _ hp0 _ rfl
      | _ => simp [mapV, mapA, mapS, mapN] at hpk
  obtain ⟨rv, hrun, hrel⟩ := hres
  rw [hpk] at hrel
  have fin : ∃ rv' F'' μ'', Ending.returned rv = .returned rv' ∧ Inv (Ctx.of w F (WrOf μ hin.length) μ (resH hin)) F'' μ'' (resH hout) w' ∧ Keeps F μ (resH hin) w F'' μ'' (resH hout) w' ∧ VRel F'' μ'' (resH hout) w' v rv' :=
    ⟨rv, F', μ2, rfl, hInv, hKeep, xS7 hnamed hokv hrel⟩
  exact ⟨rv, hrun, fin⟩
end
end Go.V
set_option linter.unusedVariables false
set_option linter.unusedSimpArgs false
namespace Go.V
theorem Imp.refl (s : St) : Imp s s := fun _ _ _ _ h => h
theorem Imp.trans {s s' s'' : St} (h : Imp s s') (h' : Imp s' s'') : Imp s s'' := fun _ _ _ _ h0 => h' _ _ _ _ (h _ _ _ _ h0)
def xBR : PV → List Bid
  | .own b _ _ _ | .ptr b _ _ _ | .mapr b => [b]
  | _ => []
def xBl : PV → List Bid
  | .fn _ cs => cs.flatMap xBR
  | v => xBR v
def xCs : PV → List Bid
  | .agg cs => cs.flatMap xBl
  | v => xBl v
def xBQ : PV → List Bid
  | .tup vs => vs.flatMap xCs
  | v => xCs v
def xFN (B : Blk) : List Bid := if B.box = true then B.els.flatMap fun e => e.flatMap xBl else []
def keepT (ks : List Nat) (l : Tmps) : Tmps := l.filter fun p => ks.contains p.1
def xLo (bs : List Bid) (l : Heap) : Heap := l.filter fun p => bs.contains p.1
section
variable {F F' : Nat → Prop} {μ μ' : Bid → Option Nat} {hf hf' : HF} {w w' : World} {s s' : St}
theorem xJY {p : PV} {x : Value} (hn : ∀ b ∈ xBR p, ∀ B, hf b = some B → xCj μ hf μ hf' b b) (h : PRel F μ hf w p x) : PRel F μ hf' w p x := by
  cases p <;> simp only [PRel] at h ⊢ <;> first
    | exact h
    | exact OwnRel.named (hn _ (by simp [xBR])) h
    | exact PtrRel.named (hn _ (by simp [xBR])) h
    | exact MapRel.named (hn _ (by simp [xBR])) h
theorem xGg {p : PV} {x : Value} (hn : ∀ b ∈ xBl p, ∀ B, hf b = some B → xCj μ hf μ hf' b b) (h : SRel F μ hf w p x) : SRel F μ hf' w p x := by
  have one : (∀ b ∈ xBR p, ∀ B, hf b = some B → xCj μ hf μ hf' b b) → PRel F μ hf w p x → PRel F μ hf' w p x := fun a b => xJY a b
  cases p with
  | fn f cs =>
    obtain ⟨rc, rfl, hs, hr⟩ := h
    refine ⟨rc, rfl, hs, fun i q y a1 a2 => xJY (fun b hb => hn b ?_) (hr i q y a1 a2)⟩
    simp only [xBl, List.mem_flatMap]
    exact ⟨q, List.mem_of_getElem? a1, hb⟩
  | agg cs => exact h
  | tup cs => exact h
  | dead => exact h
  | _ => exact one hn h
theorem xJZ {p : PV} {x : Value} (hn : ∀ b ∈ xCs p, ∀ B, hf b = some B → xCj μ hf μ hf' b b) (h : ARel F μ hf w p x) : ARel F μ hf' w p x := by
  have one : (∀ b ∈ xBl p, ∀ B, hf b = some B → xCj μ hf μ hf' b b) → SRel F μ hf w p x → SRel F μ hf' w p x := fun a b => xGg a b
  cases p with
  | agg cs =>
    obtain ⟨rc, rfl, hs, hr⟩ := h
    refine ⟨rc, rfl, hs, fun i q y a1 a2 => xGg (fun b hb => hn b ?_) (hr i q y a1 a2)⟩
    simp only [xCs, List.mem_flatMap]
    exact ⟨q, List.mem_of_getElem? a1, hb⟩
  | _ => exact one hn h
theorem xJX {p : PV} {x : Value} (hn : ∀ b ∈ xBQ p, ∀ B, hf b = some B → xCj μ hf μ hf' b b) (h : VRel F μ hf w p x) : VRel F μ hf' w p x := by
  have one : (∀ b ∈ xCs p, ∀ B, hf b = some B → xCj μ hf μ hf' b b) → ARel F μ hf w p x → ARel F μ hf' w p x := fun a b => xJZ a b
  cases p with
  | tup cs =>
    obtain ⟨rc, rfl, hs, hr⟩ := h
    refine ⟨rc, rfl, hs, fun i q y a1 a2 => xJZ (fun b hb => hn b ?_) (hr i q y a1 a2)⟩
    simp only [xBQ, List.mem_flatMap]
    exact ⟨q, List.mem_of_getElem? a1, hb⟩
  | _ => exact one hn h
theorem Imp.sub (ht : ∀ t v, tget s'.tmps t = some v → tget s.tmps t = some v ∧ ∀ b ∈ xBQ v, hget s'.heap b = hget s.heap b)
    (hh : ∀ b, hget s'.heap b = hget s.heap b ∨ hget s'.heap b = none ∧ b.lvl ≠ 0) (hb : ∀ b B, hget s'.heap b = some B → ∀ c ∈ xFN B, hget s'.heap c = hget s.heap c) : Imp s s' := by
  rintro Γ nt a w ⟨F, μ, d1, d2, hI, hT, hK, hlv⟩
  have same : ∀ b, hget s'.heap b = hget s.heap b → ∀ B, hget s.heap b = some B → xCj μ (hget s.heap) μ (hget s'.heap) b b := by
    intro b he B hB
    exact ⟨rfl, fun B' hB' => ⟨B', he.trans hB', rfl, rfl, rfl⟩⟩
  have old : ∀ b B, hget s'.heap b = some B → hget s.heap b = some B := by
    intro b B h
    rcases hh b with h1 | ⟨h1, _⟩
    · rw [← h1]; exact h
    · rw [h1] at h; cases h
  refine ⟨F, μ, d1, d2, ⟨hI.os, hI.tape, hI.output, hI.size, hI.frame, hI.lt, hI.F0, hI.new, fun b B h => ?_, fun b b' B B' k h1 h2 => hI.inj b b' B B' k (old b B h1) (old b' B' h2), fun b B k h => hI.own b B k (old b B h), hI.gl⟩, fun t p h => ?_, ?_, hlv⟩
  · obtain ⟨h1, h2, h3, h4, h5⟩ := hI.blk b B (old b B h)
    refine ⟨h1, h2, h3, h4, ?_⟩
    cases hm : μ b with
    | none => rw [hm] at h5; exact h5
    | some k =>
      rw [hm] at h5
      obtain ⟨f1, f2, h5⟩ := h5
      rcases h5 with ⟨c, e, fz, hc, hfz, hl, hr⟩ | h5
      rotate_left
      · exact ⟨f1, f2, .inr h5⟩
      refine ⟨f1, f2, .inl ⟨c, e, fz, hc, hfz, hl, fun i j el p a1 a2 => ?_⟩⟩
      obtain ⟨x, hx, hs⟩ := hr i j el p a1 a2
      refine ⟨x, hx, ?_⟩
      cases hbx : B.box with
      | false =>
        have hcl := h3 (.inl hbx) el (List.mem_of_getElem? a1) p (List.mem_of_getElem? a2)
        exact (SRel.of_closed hcl).2 ((SRel.of_closed hcl).1 hs)
      | true =>
        refine xGg (fun c hc B' hB' => same c (hb b B h c ?_) B' hB') hs
        simp only [xFN, hbx, if_true, List.mem_flatMap]
        exact ⟨el, List.mem_of_getElem? a1, p, List.mem_of_getElem? a2, hc⟩
  · obtain ⟨h1, h2⟩ := ht t p h
    exact xJX (fun b hbm B hB => same b (h2 b hbm) B hB) (hT t p h1)
  · refine ⟨hK.sub, hK.mem, hK.fre, fun b B h => ?_⟩
    obtain ⟨B', hB', g⟩ := hK.ext b B h
    rcases hh b with h1 | ⟨_, h1⟩
    · exact ⟨B', h1.trans hB', g⟩
    · exact absurd (hlv.1 b B h) h1
theorem xFW {f : Nat × PV → Bool} (hf : ∀ t u v, f (t, u) = f (t, v)) : ∀ (l : Tmps) (t : Nat) (v : PV), tget (l.filter f) t = some v → tget l t = some v
  | [], t, v, h => by cases h
  | (t', u) :: l, t, v, h => by
    simp only [List.filter_cons] at h
    split at h
    · simp only [xBW] at h ⊢
      split at h
      · rename_i he; rw [if_pos he]; exact h
      · rename_i he; rw [if_neg he]; exact xFW hf l t v h
    · rename_i hfa
      simp only [xBW]
      split
      · rename_i he
        subst he
        have : ∀ l : Tmps, tget (l.filter f) t' = none := by
          intro l
          induction l with
          | nil => rfl
          | cons p l ih =>
            obtain ⟨t2, u2⟩ := p
            simp only [List.filter_cons]
            split
            · rename_i h2
              simp only [xBW]
              split
              · rename_i he2
                subst he2
                rw [hf t2 u2 u] at h2
                exact absurd h2 hfa
              · exact ih
            · exact ih
        rw [this] at h
        cases h
      · exact xFW hf l t v h
theorem xGm (bs : List Bid) : ∀ (l : Heap) (b : Bid), hget (xLo bs l) b = if bs.contains b = true then hget l b else none
  | [], b => by simp [xLo, hget]
  | (c, B) :: l, b => by
    have ih := xGm bs l b
    simp only [xLo, List.filter_cons] at ih ⊢
    by_cases hc : bs.contains c = true
    · rw [if_pos hc]
      simp only [xBA]
      by_cases he : c = b
      · subst he
        rw [if_pos rfl, if_pos hc, if_pos rfl]
      · rw [if_neg he, if_neg he]; exact ih
    · rw [if_neg hc, ih]
      by_cases he : c = b
      · subst he
        rw [if_neg hc, if_neg hc]
      · simp only [xBA, if_neg he]
def cutOk (ks : List Nat) (bs : List Bid) (s : St) : Prop :=
  (∀ p ∈ keepT ks s.tmps, ∀ b ∈ xBQ p.2, b ∈ bs) ∧ (∀ p ∈ s.heap, p.1.lvl = 0 → p.1 ∈ bs) ∧ ∀ p ∈ xLo bs s.heap, ∀ b ∈ xFN p.2, b ∈ bs
theorem xFf : ∀ {l : Tmps} {t : Nat} {v : PV}, tget l t = some v → (t, v) ∈ l
  | (t', u) :: l, t, v, h => by
    simp only [xBW] at h
    split at h
    · rename_i he; cases h; subst he; simp
    · simp [xFf h]
theorem xEJ : ∀ {l : Heap} {t : Bid} {v : Blk}, hget l t = some v → (t, v) ∈ l
  | (t', u) :: l, t, v, h => by
    simp only [xBA] at h
    split at h
    · rename_i he; cases h; subst he; simp
    · simp [xEJ h]
def cut (ks : List Nat) (bs : List Bid) (s : St) : St := ⟨s.lvl, keepT ks s.tmps, xLo bs s.heap⟩
theorem Imp.cut {ks : List Nat} {bs : List Bid} {s : St} (h : cutOk ks bs s) : Imp s (cut ks bs s) := by
  have kh : ∀ b, b ∈ bs → hget (xLo bs s.heap) b = hget s.heap b := fun b hb => by
    rw [xGm, if_pos (by simpa using hb)]
  refine Imp.sub (fun t v ht => ⟨xFW (fun _ _ _ => rfl) _ _ _ ht, fun b hb => kh b (h.1 _ (xFf ht) b hb)⟩) (fun b => ?_) (fun b B hB c hc => kh c (h.2.2 _ (xEJ hB) c hc))
  show hget (xLo bs s.heap) b = hget s.heap b ∨ _
  by_cases hb : b ∈ bs
  · exact .inl (kh b hb)
  · have hn : hget (xLo bs s.heap) b = none := by rw [xGm, if_neg (by simpa using hb)]
    by_cases hl : b.lvl = 0
    · left
      cases hg : hget s.heap b with
      | none => exact hn
      | some B => exact absurd (h.2.1 _ (xEJ hg) hl) hb
    · exact .inr ⟨hn, hl⟩
def xFH (b c x : Bid) : Bid := if x = b then c else if x = c then b else x
def renT (σ : Bid → Bid) (l : Tmps) : Tmps := l.map fun p => (p.1, mapV σ p.2)
def renH (σ : Bid → Bid) (l : Heap) : Heap := l.map fun p => (σ p.1, mapB σ p.2)
def renS (b c : Bid) (s : St) : St := ⟨s.lvl, renT (xFH b c) s.tmps, renH (xFH b c) s.heap⟩
theorem xHr (b c x : Bid) : xFH b c (xFH b c x) = x := by
  unfold xFH
  by_cases h1 : x = b
  · simp only [h1, if_true]
    by_cases h2 : c = b
    · simp [h2]
    · simp [h2]
  · by_cases h2 : x = c
    · subst h2
      simp [h1]
    · simp [h1, h2]
theorem xFs (σ : Bid → Bid) : ∀ (l : Tmps) (t : Nat), tget (renT σ l) t = (tget l t).map (mapV σ)
  | [], t => rfl
  | (t', v) :: l, t => by
    have ih := xFs σ l t
    simp only [renT, List.map_cons, xBW] at ih ⊢
    split
    · rfl
    · exact ih
theorem xIe {σ : Bid → Bid} (hi : ∀ x, σ (σ x) = x) : ∀ (l : Heap) (b : Bid), hget (renH σ l) (σ b) = (hget l b).map (mapB σ)
  | [], b => rfl
  | (c, B) :: l, b => by
    have ih := xIe hi l b
    simp only [renH, List.map_cons, xBA] at ih ⊢
    by_cases he : c = b
    · subst he
      simp
    · have : ¬ σ c = σ b := fun e => he (by rw [← hi c, ← hi b, e])
      rw [if_neg this, if_neg he]
      exact ih
theorem Imp.ren' {b c : Bid} (hb : b.lvl ≠ 0) (hc : c.lvl ≠ 0 ∨ hget s.heap c = none) : Imp s (renS b c s) := by
  rintro Γ nt a w ⟨F, μ, d1, d2, hI, hT, hK, hlv⟩
  have hi := xHr b c
  have h0 : ∀ x : Bid, x.lvl = 0 → (∃ B, hget s.heap x = some B) → xFH b c x = x := by
    rintro x hx ⟨B, hB⟩
    unfold xFH
    rw [if_neg (fun e : x = b => hb (e ▸ hx)), if_neg (fun e : x = c => ?_)]
    subst e
    rcases hc with hc | hc
    · exact hc hx
    · rw [hc] at hB; cases hB
  generalize hσ : xFH b c = σ at *
  have hget' : ∀ x, hget (renH σ s.heap) (σ x) = (hget s.heap x).map (mapB σ) := fun x => xIe hi _ x
  have hget2 : ∀ x, hget (renH σ s.heap) x = (hget s.heap (σ x)).map (mapB σ) := fun x => by
    have := hget' (σ x)
    rwa [hi] at this
  let μ2 : Bid → Option Nat := fun x => μ (σ x)
  have hnamed : ∀ x B, hget s.heap x = some B → xCj μ (hget s.heap) μ2 (hget (renH σ s.heap)) x (σ x) := by
    intro x B hB
    refine ⟨by simp [μ2, hi], fun B' hB' => ⟨mapB σ B', by rw [hget', hB']; rfl, mapB_box, mapB_len, mapB_esz⟩⟩
  have hof : ∀ x B, hget (renH σ s.heap) x = some B → ∃ B0, hget s.heap (σ x) = some B0 ∧ B = mapB σ B0 := by
    intro x B h
    rw [hget2] at h
    obtain ⟨B0, h1, h2⟩ := map_some h
    exact ⟨B0, h1, h2.symm⟩
  have e1 : renS b c s = ⟨s.lvl, renT σ s.tmps, renH σ s.heap⟩ := by simp [renS, hσ]
  rw [e1]
  refine ⟨F, μ2, d1, d2, ⟨hI.os, hI.tape, hI.output, hI.size, hI.frame, hI.lt, hI.F0, hI.new, fun x B h => ?_, fun x y B B' k h1 h2 m1 m2 => ?_, fun x B k h m => ?_, hI.gl⟩, fun t p h => ?_, ?_, hlv⟩
  · obtain ⟨B0, h1, rfl⟩ := hof x B h
    have := xKW hnamed h1 (.inr fun _ h => h) (fun _ h => h) (hI.blk _ _ h1)
    rwa [hi] at this
  · obtain ⟨B0, g1, _⟩ := hof x B h1
    obtain ⟨B1, g2, _⟩ := hof y B' h2
    have := hI.inj _ _ _ _ k g1 g2 m1 m2
    rw [← hi x, ← hi y, this]
  · obtain ⟨B0, g1, _⟩ := hof x B h
    exact hI.own _ _ k g1 m
  · simp only [xFs] at h
    obtain ⟨q, hq, rfl⟩ := map_some h
    exact xF6 hnamed (.inr fun _ h => h) (hT t q hq)
  · refine ⟨hK.sub, hK.mem, hK.fre, fun x B h => ?_⟩
    obtain ⟨B', hB', g1, g2, g3⟩ := hK.ext x B h
    have hx := h0 x (hlv.1 x B h) ⟨B', hB'⟩
    have : hget (renH σ s.heap) x = some (mapB σ B') := by
      rw [hget2, hx, hB']; rfl
    refine ⟨mapB σ B', this, mapB_box.trans g1, by rw [mapB_len]; exact g2, ?_⟩
    rw [mapB_len, mapB_esz]
    have hm : μ2 x = μ x := by simp [μ2, hx]
    rw [hm]
    exact g3
theorem Imp.ren {b c : Bid} (hb : b.lvl ≠ 0) (hc : c.lvl ≠ 0) : Imp s (renS b c s) := Imp.ren' hb (.inl hc)
end
end Go.V
set_option linter.unusedVariables false
set_option linter.unusedSimpArgs false
namespace Go.V
structure SeqT (P : Program) (nt : Nat) (os : List VOper) (K : St → Prop) (s : St) : Prop where
  run : ∀ (Γ : Ctx) (ops : Array Oper) (vs rest : List VOper) (i : Nat), (∀ j o, ops[j]? = some o → ∃ v, vs[j]? = some v ∧ OperRel P nt ops vs j o v) → vs.length = ops.size → vs.drop i = os ++ rest →
    ∀ (Q : Exit → Act → World → Prop) (a : Act) (w : World), RS Γ nt (tget s.tmps) (hget s.heap) a w → (∀ s' a' w', K s' → RS Γ nt (tget s'.tmps) (hget s'.heap) a' w' → wpOpsIn (FW Γ.ro) 0 P ops Q (List.range' (i + os.length) rest.length) a' w') →
    wpOpsIn (FW Γ.ro) 0 P ops Q (List.range' i (os.length + rest.length)) a w
section
variable {P : Program} {nt : Nat} {os : List VOper} {K : St → Prop} {s s0 : St}
theorem xTv (h : K s) : SeqT P nt [] K s := ⟨fun _ _ _ _ _ _ _ _ _ _ _ hR hQ => by have := hQ s _ _ h hR; simpa using this⟩
theorem xEC {o : VOper} {r : Res} (hs : OStep P s.lvl o (tget s.tmps) (hget s.heap) r) (h : SeqT P nt os K ⟨s.lvl, tput s.tmps o.dst r.v, hput s.heap r.ws⟩) : SeqT P nt (o :: os) K s := by
  refine ⟨?_⟩
  intro Γ ops vs rest i h1 h2 h3 Q a w hR hQ
  have hvi : vs[i]? = some o := by
    have := congrArg (fun l => l[0]?) h3
    simpa using this
  have hi : i < vs.length := (List.getElem?_eq_some_iff.1 hvi).1
  have ho : ops[i]? = some (ops[i]'(by omega)) := Array.getElem?_eq_getElem (by omega)
  obtain ⟨v', hv', hr⟩ := h1 i _ ho
  rw [hvi] at hv'
  cases hv'
  have hlen : (o :: os).length + rest.length = (os.length + rest.length) + 1 := by simp; omega
  rw [hlen]
  show wpOpsIn (FW Γ.ro) 0 P ops Q (i :: List.range' (i + 1) (os.length + rest.length)) a w
  rw [wpOpsIn_cons]
  refine xMR ho hr hR hs fun a' w' hR' => ?_
  have hd : vs.drop (i + 1) = os ++ rest := by
    have := congrArg (fun l => l.drop 1) h3
    simpa [List.drop_drop] using this
  rw [← xCo, ← xDL] at hR'
  refine h.run Γ ops vs rest (i + 1) h1 h2 hd Q a' w' hR' fun s2 a2 w2 hk hr => ?_
  have := hQ s2 a2 w2 hk hr
  rwa [show i + (o :: os).length = i + 1 + os.length from by simp; omega] at this
variable {lvl : Nat} {tm : Tmps} {hp : Heap} {d : Option Nat} {op : VOp} {site : Nat} {pre : List Nat} {r : Res}
theorem xUs {i t : Nat} {want b : Bool} (hb : tget tm t = some (.bool b)) (hne : b ≠ want) (h : SeqT P nt os K ⟨lvl, tput tm d (.tup []), hp⟩) : SeqT P nt (⟨d, op, some (i, t, want), site, pre⟩ :: os) K ⟨lvl, tm, hp⟩ := by
  refine xEC (r := ⟨.tup [], [], []⟩) (.inl ⟨?_, rfl⟩) h
  have : xCu ⟨d, op, some (i, t, want), site, pre⟩ (tget tm) = (match tget tm t with | some (.bool b) => some (b == want) | some (.tup []) => some false | _ => none) := rfl
  rw [this, hb]
  cases b <;> cases want <;> simp_all
variable {Q Q' : Exit → St → Prop} {x y : VCode}
theorem xEt {vc : VCode} (h : vwp P vc Q s) : CT P nt vc Q s := ⟨fun Γ c hc a w hR => xPJ c vc hc Q s h a w hR⟩
theorem xD7 {vc : VCode} (h : Imp s s0) (h' : CT P nt vc Q s0) : CT P nt vc Q s := ⟨fun Γ c hc a w hR => h'.run Γ c hc a w (h _ _ _ _ hR)⟩
theorem xMx {vc : VCode} (h : CT P nt vc Q s) (hq : ∀ e s, Q e s → Q' e s) : CT P nt vc Q' s := ⟨fun Γ c hc a w hR => wpIn_mono (h.run Γ c hc a w hR) fun e a' w' ⟨s', h1, h2⟩ => ⟨s', hq e s' h1, h2⟩⟩
theorem xAB (h : Q .normal s) : CT P nt .skip Q s := xEt h
theorem xAD {id : Nat} (h : Q (.exit id) s) : CT P nt (.exit id) Q s := xEt h
theorem xOG {l : Nat} (h : Q .normal s) : CT P nt (.label l) Q s := xEt h
theorem xAC (h : Q .ret s) : CT P nt .ret Q s := xEt h
theorem xMy {id : Nat} {vs : List VOper} (h : xAz P true vs [] s (Q .normal)) : CT P nt (.region id true vs) Q s := xEt h
theorem xL3 {id : Nat} {vs : List VOper} (h : SeqT P nt vs (Q .normal) s) : CT P nt (.region id false vs) Q s := by
  refine ⟨?_⟩
  intro Γ c hc a w hR
  cases c <;> simp only [cmp] at hc <;> (try (cases hc; done)) <;> (try (obtain ⟨_, _, hc⟩ := bind_some hc; obtain ⟨_, _, hc⟩ := map_some hc; cases hc; done)) <;> (try (obtain ⟨_, _, hc⟩ := map_some hc; cases hc; done))
  · rename_i id' ops draw
    obtain ⟨vs', hvs, hc⟩ := bind_some hc
    have hsp := xRf (draw := draw) hvs
    split at hc
    · rename_i hd
      cases hc
      obtain ⟨hlen', hrel'⟩ := hsp
      refine wpIn_region ?_
      have := h.run Γ ops _ [] 0 hrel' hlen' (by simp) (lift Γ nt Q) a w hR (fun s' a' w' hk hr => ⟨s', hk, hr⟩)
      rwa [List.length_nil, Nat.add_zero, hlen', ← List.range_eq_range'] at this
    · cases hc
  · obtain ⟨_, _, hc⟩ := bind_some hc
    obtain ⟨_, _, hc⟩ := bind_some hc
    obtain ⟨_, _, hc⟩ := map_some hc
    cases hc
  · obtain ⟨_, _, hc⟩ := bind_some hc
    obtain ⟨_, _, hc⟩ := bind_some hc
    obtain ⟨_, _, hc⟩ := map_some hc
    cases hc
def seqQ (P : Program) (nt : Nat) (y : VCode) (Q : Exit → St → Prop) : Exit → St → Prop
  | .normal, s => CT P nt y Q s
  | e, s => Q e s
def xI7 (id : Nat) (Q : Exit → St → Prop) : Exit → St → Prop
  | .exit i, s => match Nat.beq i id with | true => Q .normal s | false => Q (.exit i) s
  | e, s => Q e s
def loopQ (I : Nat → St → Prop) (n : Nat) (Q : Exit → St → Prop) : Exit → St → Prop
  | .normal, s => ∃ m, m < n ∧ ∃ s', Imp s s' ∧ I m s'
  | e, s => Q e s
def scopeQ (Q : Exit → St → Prop) : Exit → St → Prop
  | .goto _, _ => False
  | e, s => Q e s
theorem xAb (h : CT P nt x (seqQ P nt y Q) s) : CT P nt (.seq x y) Q s := by
  refine ⟨?_⟩
  intro Γ c hc a w hR
  cases c <;> simp only [cmp] at hc <;> (try (cases hc; done)) <;> (try (obtain ⟨_, _, hc⟩ := map_some hc; cases hc; done))
  · obtain ⟨_, _, hc⟩ := bind_some hc
    split at hc <;> cases hc
  · obtain ⟨vx, hx, hc⟩ := bind_some hc
    obtain ⟨vy, hy, hc⟩ := map_some hc
    cases hc
    refine wpIn_seq (wpIn_mono (h.run Γ _ hx a w hR) ?_)
    rintro e a' w' ⟨s', hq, hR'⟩
    cases e with
    | normal => exact hq.run Γ _ hy a' w' hR'
    | _ => exact ⟨s', hq, hR'⟩
  · obtain ⟨_, _, hc⟩ := bind_some hc
    obtain ⟨_, _, hc⟩ := bind_some hc
    obtain ⟨_, _, hc⟩ := map_some hc
    cases hc
  · obtain ⟨_, _, hc⟩ := bind_some hc
    obtain ⟨_, _, hc⟩ := bind_some hc
    obtain ⟨_, _, hc⟩ := map_some hc
    cases hc
theorem xIs {c : VX} {t : Bool} (hb : ev (tget s.tmps) c = some (.bool t)) (h1 : t = true → CT P nt x Q s) (h2 : t = false → CT P nt y Q s) : CT P nt (.cond c x y) Q s := by
  refine ⟨?_⟩
  intro Γ c hc a w hR
  cases c <;> simp only [cmp] at hc <;> (try (cases hc; done)) <;> (try (obtain ⟨_, _, hc⟩ := map_some hc; cases hc; done))
  · obtain ⟨_, _, hc⟩ := bind_some hc
    split at hc <;> cases hc
  · obtain ⟨_, _, hc⟩ := bind_some hc
    obtain ⟨_, _, hc⟩ := map_some hc
    cases hc
  · obtain ⟨c', hc', hc⟩ := bind_some hc
    obtain ⟨vx, hx, hc⟩ := bind_some hc
    obtain ⟨vy, hy, hc⟩ := map_some hc
    cases hc
    have hR0 := hR
    obtain ⟨F, μ, _, _, d3, d4, _, _⟩ := hR0
    exact wpIn_cond_split (xCW (xAO d3 d4 hc' hb)) (fun e => (h1 e).run Γ _ hx a w hR) (fun e => (h2 e).run Γ _ hy a w hR)
  · obtain ⟨_, _, hc⟩ := bind_some hc
    obtain ⟨_, _, hc⟩ := bind_some hc
    obtain ⟨_, _, hc⟩ := map_some hc
    cases hc
theorem xA0 {id : Nat} (h : CT P nt x (xI7 id Q) s) : CT P nt (.block id x) Q s := by
  refine ⟨?_⟩
  intro Γ c hc a w hR
  cases c <;> simp only [cmp] at hc <;> (try (cases hc; done)) <;> (try (obtain ⟨_, _, hc⟩ := bind_some hc; obtain ⟨_, _, hc⟩ := map_some hc; cases hc; done))
  · obtain ⟨_, _, hc⟩ := bind_some hc
    split at hc <;> cases hc
  · obtain ⟨_, _, hc⟩ := bind_some hc
    obtain ⟨_, _, hc⟩ := bind_some hc
    obtain ⟨_, _, hc⟩ := map_some hc
    cases hc
  · obtain ⟨vx, hx, hc⟩ := map_some hc
    cases hc
    refine wpIn_block (wpIn_mono (h.run Γ _ hx a w hR) ?_)
    rintro e a' w' ⟨s', hq, hR'⟩
    cases e with
    | exit i =>
      simp only [Exit.inBlock, xI7] at hq ⊢
      split
      · rename_i h1
        rw [beqN_iff.2 h1] at hq
        exact ⟨s', hq, hR'⟩
      · rename_i h1
        have : Nat.beq i id = false := by
          cases h : Nat.beq i id with
          | false => rfl
          | true => exact absurd (beqN_iff.1 h) h1
        rw [this] at hq
        exact ⟨s', hq, hR'⟩
    | _ => exact ⟨s', hq, hR'⟩
  · obtain ⟨_, _, hc⟩ := map_some hc; cases hc
  · obtain ⟨_, _, hc⟩ := bind_some hc
    obtain ⟨_, _, hc⟩ := bind_some hc
    obtain ⟨_, _, hc⟩ := map_some hc
    cases hc
  · obtain ⟨_, _, hc⟩ := map_some hc; cases hc
theorem xRY (I : Nat → St → Prop) (n : Nat) (h0 : I n s) (h : ∀ n s, I n s → CT P nt x (loopQ I n Q) s) : CT P nt (.loop x) Q s := by
  refine ⟨?_⟩
  intro Γ c hc a w hR
  cases c <;> simp only [cmp] at hc <;> (try (cases hc; done)) <;> (try (obtain ⟨_, _, hc⟩ := bind_some hc; obtain ⟨_, _, hc⟩ := map_some hc; cases hc; done))
  · obtain ⟨_, _, hc⟩ := bind_some hc
    split at hc <;> cases hc
  · obtain ⟨_, _, hc⟩ := bind_some hc
    obtain ⟨_, _, hc⟩ := bind_some hc
    obtain ⟨_, _, hc⟩ := map_some hc
    cases hc
  · obtain ⟨_, _, hc⟩ := map_some hc; cases hc
  · obtain ⟨vx, hx, hc⟩ := map_some hc
    cases hc
    refine wpIn_loop_ghost (fun n a w => ∃ s, I n s ∧ RS Γ nt (tget s.tmps) (hget s.heap) a w) n ⟨s, h0, hR⟩ ?_
    rintro n a w ⟨s, hI, hR⟩
    refine wpIn_mono ((h n s hI).run Γ _ hx a w hR) ?_
    rintro e a' w' ⟨s', hq, hR'⟩
    cases e with
    | normal =>
      obtain ⟨m, hm, s'', hi, hI'⟩ := hq
      exact ⟨m, hm, s'', hI', hi _ _ _ _ hR'⟩
    | _ => exact ⟨s', hq, hR'⟩
  · obtain ⟨_, _, hc⟩ := bind_some hc
    obtain ⟨_, _, hc⟩ := bind_some hc
    obtain ⟨_, _, hc⟩ := map_some hc
    cases hc
  · obtain ⟨_, _, hc⟩ := map_some hc; cases hc
theorem xOF (h : CT P nt x (scopeQ Q) s) : CT P nt (.scope x) Q s := by
  refine ⟨?_⟩
  intro Γ c hc a w hR
  cases c <;> simp only [cmp] at hc <;> (try (cases hc; done)) <;> (try (obtain ⟨_, _, hc⟩ := bind_some hc; obtain ⟨_, _, hc⟩ := map_some hc; cases hc; done))
  · obtain ⟨_, _, hc⟩ := bind_some hc
    split at hc <;> cases hc
  · obtain ⟨_, _, hc⟩ := bind_some hc
    obtain ⟨_, _, hc⟩ := bind_some hc
    obtain ⟨_, _, hc⟩ := map_some hc
    cases hc
  · obtain ⟨_, _, hc⟩ := map_some hc; cases hc
  · obtain ⟨_, _, hc⟩ := map_some hc; cases hc
  · obtain ⟨_, _, hc⟩ := bind_some hc
    obtain ⟨_, _, hc⟩ := bind_some hc
    obtain ⟨_, _, hc⟩ := map_some hc
    cases hc
  · obtain ⟨vx, hx, hc⟩ := map_some hc
    cases hc
    refine xDA (wpIn_mono (h.run Γ _ hx a w hR) ?_)
    rintro e a' w' ⟨s', hq, hR'⟩
    cases e with
    | goto l => exact hq.elim
    | _ => exact ⟨s', hq, hR'⟩
end
end Go.V
set_option linter.unusedVariables false
set_option linter.unusedSimpArgs false
namespace Go.V
def h0 (hf : HF) : HF := fun b => if b.lvl = 0 then hf b else none
def lv0 (p : PV) : Prop := ∀ b ∈ xBQ p, b.lvl = 0
def lv0T (T : Tmps) : Prop := ∀ p ∈ T, lv0 p.2
section
variable {P : Program} {Γ : Ctx} {g g' : Nat → Prop} {F F' F'' F0 : Nat → Prop} {μ μ' μ'' M0 : Bid → Option Nat} {hf hf' hf'' H0 : HF} {w w' w'' w0 : World} {a : Act} {tf : TF} {T : Tmps} {nt : Nat}
theorem lv0T.get (h : lv0T T) {t : Nat} {p : PV} (ht : tget T t = some p) : lv0 p := h _ (xFf ht)
theorem VRel.to0 {p : PV} {v : Value} (hl : lv0 p) (h : VRel F μ hf w p v) : VRel F μ (h0 hf) w p v :=
  xJX (fun b hb B hB => ⟨rfl, fun B' hB' => ⟨B', by simp [h0, hl b hb, hB'], rfl, rfl, rfl⟩⟩) h
theorem TRel.to0 (hl : lv0T T) (h : TRel F μ hf w (tget T) a) : TRel F μ (h0 hf) w (tget T) a := fun t p ht => (h t p ht).to0 (hl.get ht)
theorem KeepsG.refl0 : KeepsG g F μ (h0 hf) w F μ hf w := ⟨fun _ h => h, fun _ _ => rfl, fun _ h => .inl h, fun b B h => by
  simp only [h0] at h
  split at h
  · exact ⟨B, h, rfl, Nat.le_refl _, fun _ => ⟨rfl, rfl, fun _ _ => rfl⟩⟩
  · cases h⟩
theorem KeepsG.trans' (h : KeepsG g F μ hf w F' μ' hf' w') (h' : KeepsG g' F' μ' hf' w' F'' μ'' hf'' w'') (hg : ∀ k, k < w.heap.size → g k → g' k) : KeepsG g F μ hf w F'' μ'' hf'' w'' := by
  have lt : ∀ k, NC w k → k < w.heap.size := fun k ⟨_, h, _⟩ => (Array.getElem?_eq_some_iff.1 h).1
  refine ⟨fun k hk => h'.sub k (h.sub k hk), fun k hk => ?_, fun k hk => ?_, fun b B hb => ?_⟩
  · rcases hk with hk | hk
    · exact (h'.mem k (.inl (h.sub k hk))).trans (h.mem k (.inl hk))
    · exact (h'.mem k (.inr ⟨hg k (lt k hk.2) hk.1, h.nc hk.1 hk.2⟩)).trans (h.mem k (.inr hk))
  · rcases h'.fre k hk with h1 | h1
    · exact h.fre k h1
    · exact .inr fun hgk h2 => h1 (hg k (lt k h2) hgk) (h.nc hgk h2)
  obtain ⟨B', hb', e1, l1, r1⟩ := h.ext b B hb
  obtain ⟨B'', hb'', e2, l2, r2⟩ := h'.ext b B' hb'
  refine ⟨B'', hb'', e2.trans e1, Nat.le_trans l1 l2, fun he => ?_⟩
  obtain ⟨a1, a2, a3⟩ := r1 (by omega)
  obtain ⟨b1, b2, b3⟩ := r2 (by omega)
  exact ⟨b1.trans a1, b2.trans a2, fun k hk => (b3 k (a2.trans hk)).trans (a3 k hk)⟩
theorem KeepsG.to0 (h : KeepsG g F μ H0 w F' μ' hf' w') (hl : ∀ b B, H0 b = some B → b.lvl = 0) : KeepsG g F μ H0 w F' μ' (h0 hf') w' :=
  ⟨h.sub, h.mem, h.fre, fun b B hb => by
    obtain ⟨B', hb', r⟩ := h.ext b B hb
    exact ⟨B', by simp [h0, hl b B hb, hb'], r⟩⟩
theorem xOx (hf : HF) : ∀ b B, h0 hf b = some B → b.lvl = 0 := fun b B h => by
  simp only [h0] at h
  split at h
  · assumption
  · cases h
def xI9 (Γ : Ctx) (F : Nat → Prop) (μ : Bid → Option Nat) (hf : HF) (w : World) (Ex : Nat → Prop) (ro : Option Nat) (base : Nat) : Ctx := ⟨w, F, fun k => Γ.Wr k ∨ Γ.w0.heap.size ≤ k, μ, h0 hf, Ex, ro, base⟩
variable {Ex : Nat → Prop} {ro : Option Nat} {base : Nat}
theorem Inv.anc (h : Inv Γ F μ hf w) : Inv (xI9 Γ F μ hf w Ex ro base) F μ hf w :=
  ⟨rfl, rfl, rfl, Nat.le_refl _, fun _ _ _ => rfl, h.lt, fun _ h => h, fun _ h => .inl h, h.blk, h.inj, fun b B k hb hk => .inr ((h.own b B k hb hk).symm.imp id id), h.glN _ rfl (fun _ h => h) (fun k h1 h2 h3 => h3.elim h2 fun h4 => absurd h1 (Nat.not_lt.2 h4))⟩
theorem Inv.out (h : Inv Γ F μ hf w) (h' : Inv (xI9 Γ F μ hf w Ex ro base) F' μ' hf' w') : Inv Γ F' μ' hf' w' := by
  refine ⟨h'.os.trans h.os, h'.tape.trans h.tape, h'.output.trans h.output, Nat.le_trans h.size h'.size, fun k hk hw => ?_, h'.lt, fun k hk => h'.F0 k (h.F0 k hk), fun k hk => ?_, h'.blk, h'.inj, fun b B k hb hk => ?_, h.gl⟩
  · have h1 : k < w.heap.size := Nat.lt_of_lt_of_le hk h.size
    refine (h'.frame k h1 ?_).trans (h.frame k hk hw)
    rintro (h2 | h2)
    · exact hw h2
    · have : Γ.w0.heap.size ≤ k := h2
      omega
  · rcases h'.new k hk with h1 | h1 | h1
    · exact h.new k h1
    · exact .inr (.inl (Nat.le_trans h.size h1))
    · exact .inr h1.symm
  · rcases h'.own b B k hb hk with h1 | h1
    · exact .inl (Nat.le_trans h.size h1)
    · exact h1.symm
structure Lp where
  nt : Nat
  T : Tmps
  ps : List Nat
  asg : VCode
  body : VCode
inductive Rho where
  | ready
  | done (e : Exit)
def jumpOf : Exit → Option Code
  | .ret => some .ret
  | .exit id => some (.exit id)
  | _ => none
def stOf (r : Loop) : Rho → Prop
  | .ready => r.state = .ready ∧ r.pending = none
  | .done e => r.state = .done ∧ ∃ c, jumpOf e = some c ∧ r.pending = some c
def RecOf (P : Program) (lp : Lp) (F : Nat → Prop) (μ : Bid → Option Nat) (hf : HF) (w : World) (r : Loop) : Prop :=
  lv0T lp.T ∧ r.tmps.size = lp.nt ∧ r.params = lp.ps.toArray ∧ cmp P lp.nt r.assign = some lp.asg ∧ cmp P lp.nt r.body = some lp.body ∧ TRel F μ hf w (tget lp.T) { tmps := r.tmps, defers := [] }
def Rec (P : Program) (lp : Lp) (F : Nat → Prop) (μ : Bid → Option Nat) (hf : HF) (w : World) (l : Nat) (ρ : Rho) : Prop :=
  ¬ F l ∧ ∃ r : Loop, w.heap[l]? = some (.loop r) ∧ RecOf P lp F μ hf w r ∧ stOf r ρ
theorem RecOf.keeps {lp : Lp} {r : Loop} (h : RecOf P lp F μ hf w r) (hk : KeepsG g F μ (h0 hf) w F' μ' hf' w') : RecOf P lp F' μ' hf' w' r :=
  ⟨h.1, h.2.1, h.2.2.1, h.2.2.2.1, h.2.2.2.2.1, fun t p ht => ((h.2.2.2.2.2 t p ht).to0 (h.1.get ht)).keeps hk⟩
theorem Rec.keeps {lp : Lp} {l : Nat} {ρ : Rho} (h : Rec P lp F μ hf w l ρ) (hk : KeepsG g F μ (h0 hf) w F' μ' hf' w') (hg : g l) : Rec P lp F' μ' hf' w' l ρ := by
  obtain ⟨h1, r, h2, h3, h4⟩ := h
  have hn := xEI h2
  exact ⟨fun h => (hk.fre l h).elim h1 fun h => h hg hn, r, (hk.mem l (.inr ⟨hg, hn⟩)).trans h2, h3.keeps hk, h4⟩
def RSL (P : Program) (lp : Lp) (l : Nat) (ρ : Rho) (Γ : Ctx) (nt : Nat) (tf : TF) (hf : HF) (a : Act) (w : World) : Prop :=
  ∃ F μ, (Marks Γ F w a.defers ∧ a.tmps.size = nt ∧ Inv Γ F μ hf w ∧ TRel F μ hf w tf a ∧ KeepsG (fun k => ¬ Γ.Ex k) Γ.F0 Γ.M0 Γ.H0 Γ.w0 F μ hf w ∧ (∀ b B, Γ.H0 b = some B → b.lvl = 0) ∧ RoOk Γ) ∧ Rec P lp F μ hf w l ρ
theorem xHz {lp : Lp} {l : Nat} {ρ : Rho} (h : RSL P lp l ρ Γ nt tf hf a w) :
    ∃ Γ' : Ctx, Γ'.ro = Γ.ro ∧ RS Γ' nt tf hf a w ∧ ∀ nt' tf' hf' a' w', RS Γ' nt' tf' hf' a' w' → RSL P lp l ρ Γ nt' tf' hf' a' w' := by
  obtain ⟨F, μ, ⟨d1, d2, d3, d4, d5, d6, d7⟩, hr⟩ := h
  refine ⟨xI9 Γ F μ hf w (fun _ => False) Γ.ro Γ.base, rfl, ⟨F, μ, d1, d2, d3.anc, d4, KeepsG.refl0, xOx hf, Nat.le_trans d7.1 d3.size, fun l' hl' => ⟨id, ?_⟩⟩, ?_⟩
  · obtain ⟨q1, r, q2⟩ := d7.2 l' hl'
    exact ⟨r, (d5.mem l' (.inr ⟨q1, xEI q2⟩)).trans q2⟩
  · rintro nt' tf' hf' a' w' ⟨F', μ', e1, e2, e3, e4, e5, e6, e7⟩
    exact ⟨F', μ', ⟨e1, e2, d3.out e3, e4, (d5.to0 d6).trans' e5 (fun _ _ _ h => h), d6, d7⟩, hr.keeps e5 id⟩
theorem xV7 {c : Code} {x y : VCode} (h : cmp P nt c = some (.seq x y)) : ∃ c1 c2, c = .seq c1 c2 ∧ cmp P nt c1 = some x ∧ cmp P nt c2 = some y := by
  cases c <;> simp only [cmp] at h <;> (try (cases h; done))
  · obtain ⟨_, _, h⟩ := bind_some h; split at h <;> cases h
  · obtain ⟨_, h1, h⟩ := bind_some h; obtain ⟨_, h2, h⟩ := map_some h; cases h; exact ⟨_, _, rfl, h1, h2⟩
  · obtain ⟨_, _, h⟩ := bind_some h; obtain ⟨_, _, h⟩ := bind_some h; obtain ⟨_, _, h⟩ := map_some h; cases h
  · obtain ⟨_, _, h⟩ := map_some h; cases h
  · obtain ⟨_, _, h⟩ := map_some h; cases h
  · obtain ⟨_, _, h⟩ := bind_some h; obtain ⟨_, _, h⟩ := bind_some h; obtain ⟨_, _, h⟩ := map_some h; cases h
  · obtain ⟨_, _, h⟩ := map_some h; cases h
theorem xTh {c : Code} {v : VX} {x y : VCode} (h : cmp P nt c = some (.cond v x y)) : ∃ g c1 c2, c = .cond g c1 c2 ∧ cx g = some v ∧ cmp P nt c1 = some x ∧ cmp P nt c2 = some y := by
  cases c <;> simp only [cmp] at h <;> (try (cases h; done))
  · obtain ⟨_, _, h⟩ := bind_some h; split at h <;> cases h
  · obtain ⟨_, h1, h⟩ := bind_some h; obtain ⟨_, h2, h⟩ := map_some h; cases h
  · obtain ⟨_, h1, h⟩ := bind_some h; obtain ⟨_, h2, h⟩ := bind_some h; obtain ⟨_, h3, h⟩ := map_some h; cases h; exact ⟨_, _, _, rfl, h1, h2, h3⟩
  · obtain ⟨_, _, h⟩ := map_some h; cases h
  · obtain ⟨_, _, h⟩ := map_some h; cases h
  · obtain ⟨_, _, h⟩ := bind_some h; obtain ⟨_, _, h⟩ := bind_some h; obtain ⟨_, _, h⟩ := map_some h; cases h
  · obtain ⟨_, _, h⟩ := map_some h; cases h
theorem xRi {c : Code} {id : Nat} {x : VCode} (h : cmp P nt c = some (.block id x)) : ∃ c1, c = .block id c1 ∧ cmp P nt c1 = some x := by
  cases c <;> simp only [cmp] at h <;> (try (cases h; done))
  · obtain ⟨_, _, h⟩ := bind_some h; split at h <;> cases h
  · obtain ⟨_, h1, h⟩ := bind_some h; obtain ⟨_, h2, h⟩ := map_some h; cases h
  · obtain ⟨_, _, h⟩ := bind_some h; obtain ⟨_, _, h⟩ := bind_some h; obtain ⟨_, _, h⟩ := map_some h; cases h
  · obtain ⟨_, h1, h⟩ := map_some h; cases h; exact ⟨_, rfl, h1⟩
  · obtain ⟨_, _, h⟩ := map_some h; cases h
  · obtain ⟨_, _, h⟩ := bind_some h; obtain ⟨_, _, h⟩ := bind_some h; obtain ⟨_, _, h⟩ := map_some h; cases h
  · obtain ⟨_, _, h⟩ := map_some h; cases h
theorem xTg {c : Code} {x : VCode} (h : cmp P nt c = some (.loop x)) : ∃ c1, c = .loop c1 ∧ cmp P nt c1 = some x := by
  cases c <;> simp only [cmp] at h <;> (try (cases h; done))
  · obtain ⟨_, _, h⟩ := bind_some h; split at h <;> cases h
  · obtain ⟨_, h1, h⟩ := bind_some h; obtain ⟨_, h2, h⟩ := map_some h; cases h
  · obtain ⟨_, _, h⟩ := bind_some h; obtain ⟨_, _, h⟩ := bind_some h; obtain ⟨_, _, h⟩ := map_some h; cases h
  · obtain ⟨_, _, h⟩ := map_some h; cases h
  · obtain ⟨_, h1, h⟩ := map_some h; cases h; exact ⟨_, rfl, h1⟩
  · obtain ⟨_, _, h⟩ := bind_some h; obtain ⟨_, _, h⟩ := bind_some h; obtain ⟨_, _, h⟩ := map_some h; cases h
  · obtain ⟨_, _, h⟩ := map_some h; cases h
theorem xRh {c : Code} {g : VX} {ps : List Nat} {x y : VCode} (h : cmp P nt c = some (.range g ps x y)) : ∃ f qs c1 c2, c = .rangeFunc f qs c1 c2 ∧ cx f = some g ∧ ps = qs.toList ∧ cmp P nt c1 = some x ∧ cmp P nt c2 = some y := by
  cases c <;> simp only [cmp] at h <;> (try (cases h; done))
  · obtain ⟨_, _, h⟩ := bind_some h; split at h <;> cases h
  · obtain ⟨_, h1, h⟩ := bind_some h; obtain ⟨_, h2, h⟩ := map_some h; cases h
  · obtain ⟨_, _, h⟩ := bind_some h; obtain ⟨_, _, h⟩ := bind_some h; obtain ⟨_, _, h⟩ := map_some h; cases h
  · obtain ⟨_, _, h⟩ := map_some h; cases h
  · obtain ⟨_, _, h⟩ := map_some h; cases h
  · obtain ⟨_, h1, h⟩ := bind_some h; obtain ⟨_, h2, h⟩ := bind_some h; obtain ⟨_, h3, h⟩ := map_some h; cases h; exact ⟨_, _, _, _, rfl, h1, rfl, h2, h3⟩
  · obtain ⟨_, _, h⟩ := map_some h; cases h
theorem xO7 {c : Code} {id : Nat} {vs : List VOper} (h : cmp P nt c = some (.region id false vs)) : ∃ ops, c = .region id ops false ∧ vs.length = ops.size ∧ ∀ i o, ops[i]? = some o → ∃ v, vs[i]? = some v ∧ OperRel P nt ops vs i o v := by
  cases c <;> simp only [cmp] at h <;> (try (cases h; done))
  · rename_i id' ops draw
    obtain ⟨vs', hvs, h⟩ := bind_some h
    have hsp := xRf (draw := draw) hvs
    split at h
    · cases h
      exact ⟨ops, rfl, hsp.1, hsp.2⟩
    · cases h
  · obtain ⟨_, h1, h⟩ := bind_some h; obtain ⟨_, h2, h⟩ := map_some h; cases h
  · obtain ⟨_, _, h⟩ := bind_some h; obtain ⟨_, _, h⟩ := bind_some h; obtain ⟨_, _, h⟩ := map_some h; cases h
  · obtain ⟨_, _, h⟩ := map_some h; cases h
  · obtain ⟨_, _, h⟩ := map_some h; cases h
  · obtain ⟨_, _, h⟩ := bind_some h; obtain ⟨_, _, h⟩ := bind_some h; obtain ⟨_, _, h⟩ := map_some h; cases h
  · obtain ⟨_, _, h⟩ := map_some h; cases h
def liftL (P : Program) (lp : Lp) (l : Nat) (Γ : Ctx) (nt : Nat) (Q : Exit → St → Rho → Prop) : Exit → Act → World → Prop := fun e a w => ∃ s ρ, Q e s ρ ∧ RSL P lp l ρ Γ nt (tget s.tmps) (hget s.heap) a w
def ExOk (Γ : Ctx) (l : Nat) : Prop := Γ.Ex l ∧ (Γ.w0.heap.size ≤ l ∨ Γ.Wr l)
structure CTL (P : Program) (lp : Lp) (l nt : Nat) (vc : VCode) (Q : Exit → St → Rho → Prop) (s : St) (ρ : Rho) : Prop where
  run : ∀ (Γ : Ctx), ExOk Γ l → ∀ (c : Code), cmp P nt c = some vc → ∀ (a : Act) (w : World), RSL P lp l ρ Γ nt (tget s.tmps) (hget s.heap) a w → c.wpIn (FW Γ.ro) 0 P (liftL P lp l Γ nt Q) a w
structure SeqL (P : Program) (lp : Lp) (l nt : Nat) (os : List VOper) (K : St → Rho → Prop) (s : St) (ρ : Rho) : Prop where
  run : ∀ (Γ : Ctx), ExOk Γ l → ∀ (ops : Array Oper) (vs : List VOper) (i : Nat), (∀ j o, ops[j]? = some o → ∃ v, vs[j]? = some v ∧ OperRel P nt ops vs j o v) → vs.length = ops.size → vs.drop i = os →
    ∀ (Q : Exit → Act → World → Prop) (a : Act) (w : World), RSL P lp l ρ Γ nt (tget s.tmps) (hget s.heap) a w → (∀ s' ρ' a' w', K s' ρ' → RSL P lp l ρ' Γ nt (tget s'.tmps) (hget s'.heap) a' w' → Q .normal a' w') → wpOpsIn (FW Γ.ro) 0 P ops Q (List.range' i os.length) a w
variable {lp : Lp} {l : Nat} {ρ : Rho} {s s' : St} {x y vc : VCode} {Q Q' : Exit → St → Rho → Prop} {os : List VOper} {K : St → Rho → Prop}
def seqL (P : Program) (lp : Lp) (l nt : Nat) (y : VCode) (Q : Exit → St → Rho → Prop) : Exit → St → Rho → Prop
  | .normal, s, ρ => CTL P lp l nt y Q s ρ
  | e, s, ρ => Q e s ρ
def xUU (id : Nat) (Q : Exit → St → Rho → Prop) : Exit → St → Rho → Prop
  | .exit i, s, ρ => match Nat.beq i id with | true => Q .normal s ρ | false => Q (.exit i) s ρ
  | e, s, ρ => Q e s ρ
def loopL (I : Nat → St → Rho → Prop) (n : Nat) (Q : Exit → St → Rho → Prop) : Exit → St → Rho → Prop
  | .normal, s, ρ => ∃ m, m < n ∧ ∃ s', Imp s s' ∧ I m s' ρ
  | e, s, ρ => Q e s ρ
theorem xMW (h : Imp s s') (hR : RSL P lp l ρ Γ nt (tget s.tmps) (hget s.heap) a w) : RSL P lp l ρ Γ nt (tget s'.tmps) (hget s'.heap) a w := by
  obtain ⟨Γ', _, h1, h2⟩ := xHz hR
  exact h2 _ _ _ _ _ (h _ _ _ _ h1)
theorem cl_imp (h : Imp s s') (hc : CTL P lp l nt vc Q s' ρ) : CTL P lp l nt vc Q s ρ := ⟨fun Γ hx c hcc a w hR => hc.run Γ hx c hcc a w (xMW h hR)⟩
theorem sl_imp (h : Imp s s') (hc : SeqL P lp l nt os K s' ρ) : SeqL P lp l nt os K s ρ := ⟨fun Γ hx ops vs i h1 h2 h3 Q a w hR hQ => hc.run Γ hx ops vs i h1 h2 h3 Q a w (xMW h hR) hQ⟩
theorem xV9 (hc : CTL P lp l nt vc Q s ρ) (hq : ∀ e s ρ, Q e s ρ → Q' e s ρ) : CTL P lp l nt vc Q' s ρ :=
  ⟨fun Γ hx c hcc a w hR => wpIn_mono (hc.run Γ hx c hcc a w hR) fun e a' w' ⟨s', ρ', h1, h2⟩ => ⟨s', ρ', hq e s' ρ' h1, h2⟩⟩
theorem xCv (h : CT P nt vc (fun e s' => Q e s' ρ) s) : CTL P lp l nt vc Q s ρ := by
  refine ⟨fun Γ hx c hcc a w hR => ?_⟩
  obtain ⟨Γ', hro, h1, h2⟩ := xHz hR
  have := h.run Γ' c hcc a w h1
  rw [hro] at this
  refine wpIn_mono this ?_
  rintro e a' w' ⟨s', hq, hR'⟩
  exact ⟨s', ρ, hq, h2 _ _ _ _ _ hR'⟩
theorem xCX (h : CTL P lp l nt x (seqL P lp l nt y Q) s ρ) : CTL P lp l nt (.seq x y) Q s ρ := by
  refine ⟨fun Γ hx c hcc a w hR => ?_⟩
  obtain ⟨c1, c2, rfl, h1, h2⟩ := xV7 hcc
  refine wpIn_seq (wpIn_mono (h.run Γ hx c1 h1 a w hR) ?_)
  rintro e a' w' ⟨s', ρ', hq, hR'⟩
  cases e with
  | normal => exact hq.run Γ hx _ h2 a' w' hR'
  | _ => exact ⟨s', ρ', hq, hR'⟩
theorem xM1 {c : VX} {t : Bool} (hb : ev (tget s.tmps) c = some (.bool t)) (h1 : t = true → CTL P lp l nt x Q s ρ) (h2 : t = false → CTL P lp l nt y Q s ρ) : CTL P lp l nt (.cond c x y) Q s ρ := by
  refine ⟨fun Γ hx c hcc a w hR => ?_⟩
  obtain ⟨g, c1, c2, rfl, hg, k1, k2⟩ := xTh hcc
  have hR0 := hR
  obtain ⟨F, μ, ⟨_, _, d3, d4, _⟩, _⟩ := hR0
  exact wpIn_cond_split (xCW (xAO d3 d4 hg hb)) (fun e => (h1 e).run Γ hx _ k1 a w hR) (fun e => (h2 e).run Γ hx _ k2 a w hR)
theorem xDf {id : Nat} (h : CTL P lp l nt x (xUU id Q) s ρ) : CTL P lp l nt (.block id x) Q s ρ := by
  refine ⟨fun Γ hx c hcc a w hR => ?_⟩
  obtain ⟨c1, rfl, h1⟩ := xRi hcc
  refine wpIn_block (wpIn_mono (h.run Γ hx _ h1 a w hR) ?_)
  rintro e a' w' ⟨s', ρ', hq, hR'⟩
  cases e with
  | exit i =>
    simp only [Exit.inBlock, xUU] at hq ⊢
    split
    · rename_i h1
      rw [beqN_iff.2 h1] at hq
      exact ⟨s', ρ', hq, hR'⟩
    · rename_i h1
      have : Nat.beq i id = false := by
        cases h : Nat.beq i id with
        | false => rfl
        | true => exact absurd (beqN_iff.1 h) h1
      rw [this] at hq
      exact ⟨s', ρ', hq, hR'⟩
  | _ => exact ⟨s', ρ', hq, hR'⟩
theorem xWA (I : Nat → St → Rho → Prop) (n : Nat) (hi : I n s ρ) (h : ∀ n s ρ, I n s ρ → CTL P lp l nt x (loopL I n Q) s ρ) : CTL P lp l nt (.loop x) Q s ρ := by
  refine ⟨fun Γ hx c hcc a w hR => ?_⟩
  obtain ⟨c1, rfl, h1⟩ := xTg hcc
  refine wpIn_loop_ghost (fun n a w => ∃ s ρ, I n s ρ ∧ RSL P lp l ρ Γ nt (tget s.tmps) (hget s.heap) a w) n ⟨s, ρ, hi, hR⟩ ?_
  rintro n a w ⟨s, ρ, hI, hR⟩
  refine wpIn_mono ((h n s ρ hI).run Γ hx _ h1 a w hR) ?_
  rintro e a' w' ⟨s', ρ', hq, hR'⟩
  cases e with
  | normal =>
    obtain ⟨m, hm, s'', hi, hI'⟩ := hq
    exact ⟨m, hm, s'', ρ', hI', xMW hi hR'⟩
  | _ => exact ⟨s', ρ', hq, hR'⟩
theorem xGQ {id : Nat} {vs : List VOper} (h : SeqL P lp l nt vs (Q .normal) s ρ) : CTL P lp l nt (.region id false vs) Q s ρ := by
  refine ⟨fun Γ hx c hcc a w hR => ?_⟩
  obtain ⟨ops, rfl, hlen, hrel⟩ := xO7 hcc
  refine wpIn_region ?_
  have := h.run Γ hx ops vs 0 hrel hlen rfl (liftL P lp l Γ nt Q) a w hR (fun s' ρ' a' w' hk hr => ⟨s', ρ', hk, hr⟩)
  rwa [hlen, ← List.range_eq_range'] at this
theorem xTx (os1 : List VOper) {os2 : List VOper} (h : SeqT P nt os1 (fun s' => SeqL P lp l nt os2 K s' ρ) s) (he : os = os1 ++ os2) : SeqL P lp l nt os K s ρ := by
  subst he
  refine ⟨fun Γ hx ops vs i h1 h2 h3 Q a w hR hQ => ?_⟩
  obtain ⟨Γ', hro, g1, g2⟩ := xHz hR
  have := h.run Γ' ops vs os2 i h1 h2 h3 Q a w g1 (fun s' a' w' hk hr => by
    rw [hro]
    have hd : vs.drop (i + os1.length) = os2 := by
      have := congrArg (fun l => l.drop os1.length) h3
      simpa [List.drop_drop] using this
    exact hk.run Γ hx ops vs _ h1 h2 hd Q a' w' (g2 _ _ _ _ _ hr) hQ)
  rw [hro] at this
  rwa [List.length_append]
theorem sl_nil (h : K s ρ) : SeqL P lp l nt [] K s ρ := ⟨fun _ _ _ _ _ _ _ _ _ _ _ hR hQ => hQ s ρ _ _ h hR⟩
end
end Go.V
set_option linter.unusedVariables false
set_option linter.unusedSimpArgs false
namespace Go.V
def xOl (T : Tmps) : List Nat → List PV → Tmps
  | p :: ps, v :: vs => xOl (tset T p v) ps vs
  | _, _ => T
section
variable {P : Program} {Γ : Ctx} {g g' : Nat → Prop} {F F' F'' F0 : Nat → Prop} {μ μ' μ'' M0 : Bid → Option Nat} {hf hf' hf'' H0 : HF} {w w' w'' w0 : World} {a : Act} {tf : TF} {T : Tmps} {nt : Nat}
variable {lp : Lp} {l : Nat} {ρ : Rho} {s s' : St} {x y vc : VCode} {os : List VOper} {K : St → Rho → Prop}
theorem xLQ : ∀ (ps : List Nat) (vs : List PV) (xs : List Value) (T : Tmps) (tmps : Array Value), vs.length = ps.length → xs.length = ps.length → (∀ p ∈ ps, p < tmps.size) →
    (∀ (i : Nat) (v : PV) (x : Value), vs[i]? = some v → xs[i]? = some x → VRel F μ hf w v x) → TRel F μ hf w (tget T) { tmps := tmps, defers := [] } →
    TRel F μ hf w (tget (xOl T ps vs)) { tmps := (ps.zip xs).foldl (fun tmps (p : Nat × Value) => tmps.setIfInBounds p.1 p.2) tmps, defers := [] } ∧ ((ps.zip xs).foldl (fun tmps (p : Nat × Value) => tmps.setIfInBounds p.1 p.2) tmps).size = tmps.size
  | [], [], xs, T, tmps, h1, h2, h3, h4, hT => by
    cases xs with
    | nil => exact ⟨hT, rfl⟩
    | cons _ _ => cases h2
  | [], _ :: _, _, _, _, h1, _, _, _, _ => by cases h1
  | _ :: _, [], _, _, _, h1, _, _, _, _ => by cases h1
  | p :: ps, v :: vs, [], T, tmps, h1, h2, h3, h4, hT => by cases h2
  | p :: ps, v :: vs, x :: xs, T, tmps, h1, h2, h3, h4, hT => by
    have hp := h3 p (by simp)
    have := xLQ ps vs xs (tset T p v) (tmps.setIfInBounds p x) (by simpa using h1) (by simpa using h2) (fun q hq => by simpa using h3 q (by simp [hq])) (fun i v' x' a b => h4 (i + 1) v' x' (by simpa using a) (by simpa using b)) (by
      intro t q ht
      rw [xDB] at ht
      show VRel F μ hf w q ((tmps.setIfInBounds p x).getD t undef)
      rw [Array.getD_eq_getD_getElem?]
      by_cases e : t = p
      · subst e
        rw [if_pos rfl] at ht
        cases ht
        simp only [Array.getElem?_setIfInBounds_self_of_lt hp, Option.getD_some]
        exact h4 0 _ _ rfl rfl
      · rw [if_neg e] at ht
        rw [Array.getElem?_setIfInBounds_ne (fun h => e h.symm), ← Array.getD_eq_getD_getElem?]
        exact hT t q ht)
    simp only [List.zip_cons_cons, List.foldl_cons, xOl]
    refine ⟨this.1, this.2.trans (by simp)⟩
def xT1 (P : Program) (lp : Lp) (l nt : Nat) (os : List VOper) (K : St → Rho → Prop) (lvl : Nat) (tm : Tmps) (d : Option Nat) : Exit → St → Prop
  | .normal, s => SeqL P lp l nt os K ⟨lvl, tput tm d (.bool true), s.heap⟩ .ready
  | .ret, s => SeqL P lp l nt os K ⟨lvl, tput tm d (.bool false), s.heap⟩ (.done .ret)
  | .exit id, s => SeqL P lp l nt os K ⟨lvl, tput tm d (.bool false), s.heap⟩ (.done (.exit id))
  | _, _ => False
theorem xSH {lvl lvlB : Nat} {tm : Tmps} {hp : Heap} {d : Option Nat} {t : Nat} {xs : List VX} {vals : List PV} {site : Nat} {pre : List Nat}
    (hy : tget tm t = some (.yld l)) (hxs : evs (tget tm) xs = some vals) (hn : vals.length = lp.ps.length) (hps : ∀ p ∈ lp.ps, p < lp.nt) (hlv : lv0T tm)
    (hb : CT P lp.nt lp.asg (fun e s1 => e = .normal ∧ CT P lp.nt lp.body (xT1 P lp l nt os K lvl tm d) s1) ⟨lvlB, xOl lp.T lp.ps vals, hp⟩) :
    SeqL P lp l nt (⟨d, .call (.t t) xs, none, site, pre⟩ :: os) K ⟨lvl, tm, hp⟩ .ready := by
  refine ⟨fun Γ hx ops vs i h1 h2 h3 Q a w hR hQ => ?_⟩
  have hvi : vs[i]? = some ⟨d, .call (.t t) xs, none, site, pre⟩ := by
    have := congrArg (fun l => l[0]?) h3
    simpa using this
  have hi : i < vs.length := (List.getElem?_eq_some_iff.1 hvi).1
  have ho : ops[i]? = some (ops[i]'(by omega)) := Array.getElem?_eq_getElem (by omega)
  generalize ops[i]'(by omega) = o at ho
  obtain ⟨v', hv', hr⟩ := h1 i _ ho
  rw [hvi] at hv'
  cases hv'
  show wpOpsIn (FW Γ.ro) 0 P ops Q (i :: List.range' (i + 1) os.length) a w
  rw [wpOpsIn_cons]
  have hd' : vs.drop (i + 1) = os := by
    have := congrArg (fun l => l.drop 1) h3
    simpa [List.drop_drop] using this
  unfold wpOpIn
  rw [ho]
  simp only
  have hg : Region.wanted o (yielded ops a.tmps) = true := by
    unfold Region.wanted
    rcases hr.guard with ⟨g1, _⟩ | ⟨g, want, d', g1, g2, g3⟩
    · rw [g1]
    · cases g3
  rw [hg]
  simp only [if_true]
  have hcall : xAQ P o.op = some (.call (.t t) xs) := by
    have := hr.op
    cases h : xAQ P o.op with
    | none => rw [h] at this; cases this
    | some v => rw [h] at this; exact congrArg some this
  obtain ⟨c, hop, hcc⟩ := xHF hcall
  obtain ⟨F, μ, ⟨d1, d2, d3, d4, d5, d6, d7⟩, hnF, r, hrl, hro, hst⟩ := hR
  obtain ⟨hst1, hst2⟩ := hst
  rcases hcc with ⟨f, hcl, hcf, hcxs⟩ | ⟨_, _, _, _, _, he, _⟩
  rotate_left
  · cases he
  have hfv : a.eval f = .func (.yield l) #[] #[] := xVt (xAO d3 d4 hcf (show ev (tget tm) (.t t) = some (.yld l) from hy))
  obtain ⟨k1, k2⟩ := xKl d3 d4 _ _ _ hcxs hxs
  obtain ⟨o1, o2, o3, o4, o5, o6⟩ := hro
  have hsem : o.semAt (FW Γ.ro).round a.eval = execOp a.eval o := Oper.semAt_eq _ _ _ fun c' hc => by rw [hop] at hc; cases hc
  refine ⟨fun _ _ => trivial, ?_⟩
  have hsize : (c.args.map a.eval).size = r.params.size := by
    rw [o3]
    simp [← hn, k1]
  have hrun : (execOp a.eval o).run P w = .ok (.round l r.fn ((r.params.zip (c.args.map a.eval)).foldl (fun tmps (p, x) => tmps.setIfInBounds p x) r.tmps) r.assign r.body) w := by
    have := run_yield (P := P) (args := c.args.map a.eval) hrl hsize
    simpa only [execOp, hop, resolve, hcl, Deferred.ofValue, hfv, Sem.run_bind, Sem.run_pure, Result.andThen_ok, invoke, Array.empty_append, Array.append_empty] using this
  rw [hsem, hrun]
  refine ⟨fun h => (by cases h), roundIn_of_wpIn (F := FW Γ.ro) trivial ?_⟩
  have hfold : (r.params.zip (c.args.map a.eval)).foldl (fun tmps (p, x) => tmps.setIfInBounds p x) r.tmps = (lp.ps.zip (c.args.toList.map a.eval)).foldl (fun tmps (p : Nat × Value) => tmps.setIfInBounds p.1 p.2) r.tmps := by
    rw [← Array.foldl_toList, Array.toList_zip, o3]
    simp
  obtain ⟨t1, t2⟩ := xLQ (F := F) (μ := μ) (hf := hget hp) (w := w) lp.ps vals (c.args.toList.map a.eval) lp.T r.tmps hn (by simp [← hn, k1]) (fun p hp => by rw [o2]; exact hps p hp) (fun j v x a1 a2 => by
    rw [List.getElem?_map] at a2
    obtain ⟨z, hz, rfl⟩ := map_some a2
    exact k2 j v z a1 hz) o6
  rw [hfold]
  generalize (lp.ps.zip (c.args.toList.map a.eval)).foldl (fun tmps (p : Nat × Value) => tmps.setIfInBounds p.1 p.2) r.tmps = rt at t1 t2
  have hnl := xEI hrl
  have hR1 : RS (xI9 Γ F μ (hget hp) w (fun _ => False) (some l) 0) lp.nt (tget (xOl lp.T lp.ps vals)) (hget hp) { tmps := rt, defers := [] } w :=
    ⟨F, μ, Marks.nil, t2.trans o2, d3.anc, t1, KeepsG.refl0, xOx _, Nat.zero_le _, fun l' hl' => by cases hl'; exact ⟨id, r, hrl⟩⟩
  refine wpIn_mono (hb.run _ r.assign o4 _ w hR1) ?_
  rintro e a1 w1 ⟨s1, ⟨rfl, hb2⟩, F1, μ1, e1, e2, e3, e4, e5, e6, e7⟩
  have hl1 : w1.heap[l]? = some (.loop r) := (e5.mem l (.inr ⟨id, hnl⟩)).trans hrl
  have hn1 := xEI hl1
  have hF1 : ¬ F1 l := fun h => (e5.fre l h).elim hnF fun h => h id hnl
  refine ⟨_, run_beginRound hl1 hst1, ?_⟩
  have hlw := hx.2
  have hI1 : Inv Γ F1 μ1 (hget s1.heap) (w1.putObj l (.loop { r with state := .busy })) := (d3.out e3).obj hl1 hn1 hF1 (by simp) hlw
  have hl2 : (w1.putObj l (.loop { r with state := .busy })).heap[l]? = some (.loop { r with state := .busy }) := World.putObj_heap_same (Array.getElem?_eq_some_iff.1 hl1).1
  have hn2 := xEI hl2
  have hR2 : RS (xI9 Γ F1 μ1 (hget s1.heap) (w1.putObj l (.loop { r with state := .busy })) (fun _ => False) (some l) 0) lp.nt (tget s1.tmps) (hget s1.heap) a1 (w1.putObj l (.loop { r with state := .busy })) := by
    refine ⟨F1, μ1, ?_, e2, hI1.anc, e4.obj hl1 hn1 hF1 (by simp), KeepsG.refl0, xOx _, Nat.zero_le _, fun l' hl' => by cases hl'; exact ⟨id, _, hl2⟩⟩
    refine Marks.keepsG (g := fun k => k ≠ l) (μ := μ1) (hf := hget s1.heap) (μ' := μ1) (hf' := hget s1.heap) (w := w1) (F := F1) e1 (xIY hl1 hn1 hF1 (by simp)) ?_
    rintro k hkk rfl
    rw [hl1] at hkk
    cases hkk
  refine wpIn_mono (hb2.run _ r.body o5 _ _ hR2) ?_
  rintro e a2 w3 ⟨s2, hk, F3, μ3, f1, f2, f3, f4, f5, f6, f7⟩
  have hl3 : w3.heap[l]? = some (.loop { r with state := .busy }) := (f5.mem l (.inr ⟨id, hn2⟩)).trans hl2
  have hn3 := xEI hl3
  have hF3 : ¬ F3 l := fun h => (f5.fre l h).elim hF1 fun h => h id hn2
  have hI3 := hI1.out f3
  have fin : ∀ (jump : Option Code) (ρ' : Rho) (bb : Bool), bb = jump.isNone → stOf { r with state := if jump.isNone then .ready else .done, pending := jump } ρ' → SeqL P lp l nt os K ⟨lvl, tput tm d (.bool bb), s2.heap⟩ ρ' →
      ∃ v w', (Instr.endRound l jump).run P w3 = .ok v w' ∧ wpOpsIn (FW Γ.ro) 0 P ops Q (List.range' (i + 1) os.length) (a.put o.dst v) w' := by
    intro jump ρ' bb hbb hst' hsl
    subst hbb
    refine ⟨_, _, run_endRound jump hl3, ?_⟩
    have hkr : KeepsG (fun k => k ≠ l) F μ (h0 (hget hp)) w F3 μ3 (hget s2.heap) (w3.putObj l (.loop { { r with state := .busy } with state := if jump.isNone then .ready else .done, pending := jump })) := by
      have q1 : KeepsG (fun k => k ≠ l) F μ (h0 (hget hp)) w F1 μ1 (hget s1.heap) w1 := e5.mono fun _ _ => id
      have q2 := q1.obj (o' := .loop { r with state := .busy }) hl1 hn1 hF1 (by simp) (fun h => absurd rfl h)
      have q3 : KeepsG (fun k => k ≠ l) F1 μ1 (h0 (hget s1.heap)) (w1.putObj l (.loop { r with state := .busy })) F3 μ3 (hget s2.heap) w3 := f5.mono fun _ _ => id
      have q4 := (q2.to0 (xOx _)).trans q3
      exact q4.obj hl3 hn3 hF3 (by simp) (fun h => absurd rfl h)
    have hl4 : (w3.putObj l (.loop { { r with state := .busy } with state := if jump.isNone then .ready else .done, pending := jump })).heap[l]? = some (.loop { r with state := if jump.isNone then .ready else .done, pending := jump }) :=
      World.putObj_heap_same (Array.getElem?_eq_some_iff.1 hl3).1
    refine hsl.run Γ hx ops vs (i + 1) h1 h2 hd' Q _ _ ?_ hQ
    refine ⟨F3, μ3, ⟨?_, ?_, hI3.obj hl3 hn3 hF3 (by simp) hlw, ?_, ?_, d6, d7⟩, hF3, _, hl4, ⟨o1, o2, o3, o4, o5, ?_⟩, hst'⟩
    · rw [xC7]
      refine d1.keepsG hkr ?_
      rintro k hkk rfl
      rw [hrl] at hkk
      cases hkk
    · rw [xE2]; exact d2
    · have hdst : o.dst = d := hr.dst.symm
      rw [hdst]
      show TRel F3 μ3 (hget s2.heap) _ (tget (tput tm d (.bool jump.isNone))) _
      rw [xCo]
      intro t' p ht
      cases d with
      | none => exact ((d4 t' p ht).to0 (hlv.get ht)).keeps hkr
      | some d =>
        simp only [putF] at ht
        by_cases e : t' = d
        · subst e
          rw [if_pos rfl] at ht
          cases ht
          have hlt : t' < a.tmps.size := by rw [d2]; exact hr.lt t' hdst
          have : ((a.put (some t') (.bool jump.isNone)).tmps.getD t' undef) = .bool jump.isNone := by simp [Act.put, hlt]
          rw [this]
          exact VRel.bool _
        · rw [if_neg e] at ht
          have : ((a.put (some d) (.bool jump.isNone)).tmps.getD t' undef) = a.tmps.getD t' undef := by
            simp only [Act.put, Array.getD_eq_getD_getElem?]
            rw [Array.getElem?_setIfInBounds_ne (fun h => e h.symm)]
          rw [this]
          exact ((d4 t' p ht).to0 (hlv.get ht)).keeps hkr
    · exact (d5.to0 d6).trans' hkr fun k _ hkk h => hkk (h ▸ hx.1)
    · exact fun t' p ht => ((o6 t' p ht).to0 (o1.get ht)).keeps hkr
  cases e with
  | normal => exact fin none .ready true rfl ⟨rfl, rfl⟩ hk
  | ret => exact fin (some .ret) (.done .ret) false rfl ⟨rfl, _, rfl, rfl⟩ hk
  | exit id => exact fin (some (.exit id)) (.done (.exit id)) false rfl ⟨rfl, _, rfl, rfl⟩ hk
  | goto t => exact hk.elim
  | panic c => exact hk.elim
  | outgrown => exact hk.elim
end
end Go.V
set_option linter.unusedVariables false
set_option linter.unusedSimpArgs false
namespace Go.V
section
variable {P : Program} {Γ : Ctx} {g g' : Nat → Prop} {F F' F'' F0 : Nat → Prop} {μ μ' μ'' M0 : Bid → Option Nat} {hf hf' hf'' H0 : HF} {w w' w'' w0 : World} {a : Act} {tf : TF} {T : Tmps} {nt : Nat}
variable {lp : Lp} {l : Nat} {ρ : Rho} {s s' : St} {x y vc : VCode}
theorem heap_alloc {o : Obj} {k : Nat} (h : k < w.heap.size) : (w.alloc o).heap[k]? = w.heap[k]? := by
  show (w.heap.push o)[k]? = _
  rw [Array.getElem?_push]
  split
  · omega
  · rfl
theorem xCf (hI : Inv Γ F μ hf w) {o : Obj} : Keeps F μ hf w F μ hf (w.alloc o) := by
  refine ⟨fun _ h => h, fun k hk => heap_alloc ?_, fun _ h => .inl h, fun b B hb => ⟨B, hb, rfl, Nat.le_refl _, fun _ => ⟨rfl, rfl, fun k hk => xEE (heap_alloc ?_)⟩⟩⟩
  · rcases hk with hk | ⟨_, o, h, _⟩
    · exact hI.lt k hk
    · exact (Array.getElem?_eq_some_iff.1 h).1
  · obtain ⟨_, hc, _⟩ := (hI.blk b B hb).at hk
    exact (Array.getElem?_eq_some_iff.1 hc).1
theorem Inv.alloco (hI : Inv Γ F μ hf w) {o : Obj} : Inv Γ F μ hf (w.alloc o) := by
  have hs : (w.alloc o).heap.size = w.heap.size + 1 := World.size_alloc _ _
  refine ⟨hI.os, hI.tape, hI.output, by have := hI.size; omega, fun k hk hw => ?_, fun k hk => by have := hI.lt k hk; omega, hI.F0, hI.new, fun b B hb => ?_, hI.inj, hI.own, hI.gl⟩
  · rw [heap_alloc (Nat.lt_of_lt_of_le hk hI.size)]; exact hI.frame k hk hw
  · refine (hI.blk b B hb).keeps (xCf hI (o := o)) rfl (fun _ _ h => h) fun k hk => heap_alloc ?_
    obtain ⟨_, hc, _⟩ := (hI.blk b B hb).at hk
    exact (Array.getElem?_eq_some_iff.1 hc).1
theorem xO2 (hI : Inv Γ F μ hf w) (hM : Marks Γ F w a.defers) (hb : Γ.base ≤ w.heap.size) (hro : ∀ l, Γ.ro = some l → ∃ r, w.heap[l]? = some (.loop r)) (fn : FuncId) (ps : Array Tmp) (assign body : Code) :
    ∃ l mark w1 r, (Instr.enterLoop fn a.tmps ps assign body Γ.ro).run P w = .ok (l, mark) w1 ∧ w.heap.size ≤ l ∧ w1.heap[l]? = some (.loop r) ∧ r.state = .ready ∧ r.pending = none ∧ r.tmps = a.tmps ∧ r.params = ps ∧ r.assign = assign ∧ r.body = body ∧
      Inv Γ F μ hf w1 ∧ Keeps F μ hf w F μ hf w1 ∧ Marks Γ F w1 (mark ++ a.defers) := by
  cases hr : Γ.ro with
  | none =>
    have i1 := hI.alloco (o := .deferred (some []))
    have k1 := xCf hI (o := .deferred (some []))
    have s1 : (w.alloc (.deferred (some []))).heap.size = w.heap.size + 1 := World.size_alloc _ _
    refine ⟨w.heap.size + 1, _, _, { state := .ready, pending := none, fn := fn, tmps := a.tmps, params := ps, assign := assign, body := body, defers := w.heap.size }, run_enterLoop_outer fn a.tmps ps assign body, by omega, ?_, rfl, rfl, rfl, rfl, rfl, rfl, i1.alloco, k1.trans (xCf i1), ?_⟩
    · rw [← s1]; exact World.alloc_heap_new _ _
    · obtain ⟨rs, h1, h2, h3⟩ := (hM.keeps k1).keeps (xCf i1 (o := .loop { state := .ready, pending := none, fn := fn, tmps := a.tmps, params := ps, assign := assign, body := body, defers := w.heap.size }))
      refine ⟨w.heap.size :: rs, List.nodup_cons.2 ⟨fun hm => ?_, h1⟩, by rw [h2]; rfl, fun r hr => ?_⟩
      · obtain ⟨rs', _, g2, g3⟩ := hM
        have : rs = rs' := by
          have := h2.symm.trans g2
          have hinj : ∀ (x y : List Nat), x.map Go.V.mark = y.map Go.V.mark → x = y := by
            intro x
            induction x with
            | nil => intro y h; cases y with | nil => rfl | cons _ _ => cases h
            | cons p x ih =>
              intro y h
              cases y with
              | nil => cases h
              | cons q y =>
                simp only [List.map_cons, List.cons.injEq] at h
                have hp : p = q := by have := h.1; simp only [mark, Deferred.mk.injEq, Target.collected.injEq] at this; exact this.1
                rw [hp, ih y h.2]
          exact hinj _ _ this
        subst this
        have := (Array.getElem?_eq_some_iff.1 (g3 _ hm).2.2).1
        omega
      · rcases List.mem_cons.1 hr with rfl | hr
        · refine ⟨hb, fun h => ?_, ?_⟩
          · have := hI.lt _ h
            omega
          · rw [heap_alloc (by omega)]; exact World.alloc_heap_new _ _
        · exact h3 r hr
  | some l0 =>
    obtain ⟨r0, hr0⟩ := hro l0 hr
    refine ⟨w.heap.size, [], w.alloc (.loop { state := .ready, pending := none, fn := fn, tmps := a.tmps, params := ps, assign := assign, body := body, defers := r0.defers }), _, ?_, Nat.le_refl _, World.alloc_heap_new _ _, rfl, rfl, rfl, rfl, rfl, rfl, hI.alloco, xCf hI, hM.keeps (xCf hI)⟩
    unfold Instr.enterLoop
    simp only [Sem.run_bind, run_getLoop hr0, run_newObj_alloc, Result.andThen, Sem.run_pure]
def xT4 (Q : Exit → St → Prop) (lvl : Nat) (T : Tmps) : Exit → St → Rho → Prop
  | .normal, s, .ready | .ret, s, .ready => Q .normal ⟨lvl, T, s.heap⟩
  | .normal, s, .done e | .ret, s, .done e => Q e ⟨lvl, T, s.heap⟩
  | _, _, _ => False
theorem xTe {lvl lvlI f nt' : Nat} {T : Tmps} {hp : Heap} {gx : VX} {caps : List PV} {ps : List Nat} {asg body vc' : VCode} {Q : Exit → St → Prop}
    (hg : ev (tget T) gx = some (.fn f caps)) (hvf : VF P (fnId f) = some (nt', vc', [])) (hlv : lv0T T) (hlc : ∀ c ∈ caps, lv0 c) (hlen : caps.length + 1 ≤ nt') (hcap : fnN f ≤ caps.length)
    (hit : ∀ l, CTL P ⟨nt, T, ps, asg, body⟩ l nt' vc' (xT4 Q lvl T) ⟨lvlI, xHM 0 (caps.take (fnN f) ++ .yld l :: caps.drop (fnN f)), hp⟩ .ready) :
    CT P nt (.range gx ps asg body) Q ⟨lvl, T, hp⟩ := by
  refine ⟨fun Γ c hc a w hR => ?_⟩
  obtain ⟨fo, qs, ca, cb, rfl, hgx, rfl, hca, hcb⟩ := xRh hc
  obtain ⟨F, μ, d1, d2, d3, d4, d5, d6, d7⟩ := hR
  refine wpIn_rangeFunc fun fn _ => ?_
  have hbase : Γ.base ≤ w.heap.size := Nat.le_trans d7.1 d3.size
  have hro : ∀ l, Γ.ro = some l → ∃ r, w.heap[l]? = some (.loop r) := fun l hl => by
    obtain ⟨q1, r, q2⟩ := d7.2 l hl
    exact ⟨r, (d5.mem l (.inr ⟨q1, xEI q2⟩)).trans q2⟩
  obtain ⟨l, mk, w1, r, g1, g2, g3, g4, g5, g6, g7, g8, g9, g10, g11, g12⟩ := xO2 (P := P) d3 d1 hbase hro fn qs ca cb
  obtain ⟨rc, hfv, hrcs, hrc⟩ := xQ6 (xAO d3 d4 hgx hg)
  obtain ⟨fv, hfn, hvf⟩ := bind_some hvf
  split at hvf
  · cases hvf
  rename_i hname
  obtain ⟨cf, hcf, hvf⟩ := bind_some hvf
  obtain ⟨vc2, hvc, hvf⟩ := bind_some hvf
  obtain ⟨rs', hrs', hvf⟩ := map_some hvf
  simp only [Prod.mk.injEq] at hvf
  obtain ⟨rfl, rfl, rfl⟩ := hvf
  have hres : fv.results.toList = [] := by
    cases h : fv.results.toList with
    | nil => rfl
    | cons r l =>
      rw [h] at hrs'
      cases r with
      | tmp t => simp only [rsOf] at hrs'; obtain ⟨_, _, h⟩ := map_some hrs'; cases h
      | cell a t =>
        simp only [rsOf] at hrs'
        obtain ⟨_, _, hrs'⟩ := bind_some hrs'
        obtain ⟨_, _, hrs'⟩ := bind_some hrs'
        obtain ⟨_, _, h⟩ := map_some hrs'
        cases h
  have hlF : ¬ F l := fun h => by have := d3.lt l h; omega
  have hnl := xEI g3
  let rargs : Array Value := rc.extract 0 (fnN f) ++ #[.func (.yield l) #[] #[]] ++ rc.extract (fnN f) rc.size
  refine ⟨l, mk, w1, { target := .fn (.func (fnId f)) (rc.extract (fnN f) rc.size), args := rc.extract 0 (fnN f) ++ #[.func (.yield l) #[] #[]] }, w1, fnId f, rargs, w1, g1, ?_, fun _ _ => trivial, ?_, fun h => (by cases h), ?_⟩
  · simp only [resolve, Deferred.ofValue, Act.eval] at hfv ⊢
    rw [hfv]
    simp [Sem.run_bind, Sem.run_pure, Result.andThen_ok, Act.eval]
  · simp only [invoke]
    exact xFU hfn hname hcf _ _
  refine callsIn_FW.2 (callsIn_wide.1 (callsIn_of_wp_marks (F := Fence.wide) (n := 0) hfn hcf trivial ?_))
  have hRL : RSL P ⟨nt, T, qs.toList, asg, body⟩ l .ready (xI9 Γ F μ (hget hp) w1 (fun k => k = l) none w1.heap.size) fv.ntmps (tget (xHM 0 (caps.take (fnN f) ++ .yld l :: caps.drop (fnN f)))) (hget hp) { tmps := rargs ++ Array.replicate (fv.ntmps - rargs.size) undef, defers := [] } w1 := by
    have hrsz : rargs.size = caps.length + 1 := by simp [rargs, hrcs]; omega
    refine ⟨F, μ, ⟨Marks.nil, by (simp [hrsz] <;> omega), g10.anc, fun t p ht => ?_, KeepsG.refl0, xOx _, Nat.le_refl _, fun l hl => by cases hl⟩, hlF, r, g3, ⟨hlv, by rw [g6]; exact d2, by rw [g7], by rw [g8]; exact hca, by rw [g9]; exact hcb, ?_⟩, g4, g5⟩
    · obtain ⟨_, h2⟩ := xGX _ 0 t p ht
      rw [Nat.sub_zero] at h2
      have hlt := (List.getElem?_eq_some_iff.1 h2).1
      have hlt' : t < caps.length + 1 := by simp at hlt; omega
      have hval : ∀ x, rargs[t]? = some x → (rargs ++ Array.replicate (fv.ntmps - rargs.size) undef).getD t undef = x := by
        intro x hx
        rw [Array.getD_eq_getD_getElem?, Array.getElem?_append_left (by omega), hx]
        rfl
      have hL : rargs.toList = rc.toList.take (fnN f) ++ (Value.func (.yield l) #[] #[] :: rc.toList.drop (fnN f)) := by
        simp [rargs, List.extract_eq_take_drop]
        exact List.take_of_length_le (by simp)
      have key : ∀ x, rargs[t]? = some x → VRel F μ (hget hp) w p x := by
        intro x hx
        rw [← Array.getElem?_toList, hL] at hx
        have hlt1 : (rc.toList.take (fnN f)).length = (caps.take (fnN f)).length := by simp [hrcs]
        by_cases hi : t < (caps.take (fnN f)).length
        · rw [List.getElem?_append_left hi] at h2
          rw [List.getElem?_append_left (by omega)] at hx
          have hin : t < fnN f := by simp at hi; omega
          rw [List.getElem?_take_of_lt hin] at h2 hx
          exact VRel.of_S' (SRel.of_P (hrc t p x h2 (by simpa using hx)))
        · rw [List.getElem?_append_right (by omega)] at h2
          rw [List.getElem?_append_right (by omega), hlt1] at hx
          generalize t - (caps.take (fnN f)).length = j at h2 hx
          cases j with
          | zero =>
            simp at h2 hx
            subst h2; subst hx
            exact VRel.of_C (.yld l)
          | succ j =>
            simp only [List.getElem?_cons_succ, List.getElem?_drop] at h2 hx
            exact VRel.of_S' (SRel.of_P (hrc _ p x h2 (by simpa using hx)))
      have hx : rargs[t]? = some (rargs[t]'(by omega)) := Array.getElem?_eq_getElem (by omega)
      rw [hval _ hx]
      exact (key _ hx).keeps g11
    · intro t p ht
      rw [g6]
      exact (d4 t p ht).keeps g11
  have hex : ExOk (xI9 Γ F μ (hget hp) w1 (fun k => k = l) none w1.heap.size) l := ⟨rfl, .inr (.inr (Nat.le_trans d3.size g2))⟩
  refine wpIn_mono ((hit l).run _ hex cf hvc _ w1 hRL) ?_
  rintro e a2 w2 ⟨s2, ρ2, hk, F2, μ2, ⟨e1, e2, e3, e4, e5, e6, e7⟩, e8⟩
  have hout : ∀ w3, (Inv Γ F2 μ2 (hget s2.heap) w3 ∧ KeepsG (fun k => k ≠ l) F μ (h0 (hget hp)) w1 F2 μ2 (hget s2.heap) w3 ∧ Rec P ⟨nt, T, qs.toList, asg, body⟩ F2 μ2 (hget s2.heap) w3 l ρ2) →
      ∃ v, (results fv a2.tmps).run P w3 = .ok v w3 ∧ rangePost (FW Γ.ro) 0 P l (lift Γ nt Q) { a with defers := mk ++ a.defers } (.returned v) w3 := by
    rintro w3 ⟨hI3, hK3, hF3, r3, hr3, hro3, hst3⟩
    refine ⟨_, xH1 (vs := []) (by rw [hres]; simp), ?_⟩
    have hn3 := xEI hr3
    have hnb : r3.state ≠ .busy := by
      cases ρ2 with
      | ready => rw [hst3.1]; simp
      | done e => rw [hst3.1]; simp
    refine ⟨_, _, run_endLoop hr3 hnb, ?_⟩
    have hI4 := hI3.obj (o' := .loop { r3 with state := .exhausted }) hr3 hn3 hF3 (by simp) (.inl (Nat.le_trans d3.size g2))
    have hK4 := hK3.obj (o' := .loop { r3 with state := .exhausted }) hr3 hn3 hF3 (by simp) (fun h => absurd rfl h)
    have hKw : KeepsG (fun k => k ≠ l) F μ (h0 (hget hp)) w F2 μ2 (hget s2.heap) (w3.putObj l (.loop { r3 with state := .exhausted })) := by
      have q1 : KeepsG (fun _ => True) F μ (h0 (hget hp)) w F μ (hget hp) w1 := by
        refine ⟨g11.sub, g11.mem, g11.fre, fun b B hb => g11.ext b B ?_⟩
        simp only [h0] at hb
        split at hb
        · exact hb
        · cases hb
      exact ((q1.to0 (xOx _)).trans' hK4 fun k hk _ => by omega).mono fun _ _ => trivial
    have hRS : RS Γ nt (tget T) (hget s2.heap) { a with defers := mk ++ a.defers } (w3.putObj l (.loop { r3 with state := .exhausted })) := by
      refine ⟨F2, μ2, g12.keepsG hK4 ?_, d2, hI4, fun t p ht => ((d4 t p ht).to0 (hlv.get ht)).keeps hKw, (d5.to0 d6).trans' hKw fun k hk _ => ?_, d6, d7⟩
      · rintro k hkk rfl
        rw [g3] at hkk
        cases hkk
      · have := d3.size
        omega
    generalize w3.putObj l (.loop { r3 with state := .exhausted }) = w4 at hRS ⊢
    cases ρ2 with
    | ready =>
      rw [hst3.2]
      cases e <;> first | exact hk.elim | exact ⟨_, hk, hRS⟩
    | done e' =>
      obtain ⟨_, c', hc', hp'⟩ := hst3
      rw [hp']
      have hq : Q e' ⟨lvl, T, s2.heap⟩ := by cases e <;> first | exact hk.elim | exact hk
      cases e' <;> cases hc'
      · exact wpIn_exit ⟨_, hq, hRS⟩
      · exact wpIn_ret ⟨_, hq, hRS⟩
  obtain ⟨rs, hr1, hr2, hr3⟩ := e1
  have hl := xEl (P := P) (Fc := Fence.wide) (n := 0) (fn := fv) (tmps := a2.tmps) (R := rangePost (FW Γ.ro) 0 P l (lift Γ nt Q) { a with defers := mk ++ a.defers }) _ w1.heap.size F2 (fun w3 k hx h3 h1 h2 => ?_) hout rs w2 hr1 hr3 ⟨g10.out e3, e5, e8⟩
  · have hee : e = .normal ∨ e = .ret := by
      cases e <;> first | exact .inl rfl | exact .inr rfl | exact hk.elim
    rw [← hr2] at hl
    rcases hee with rfl | rfl
    · exact hl
    · exact hl
  · have hn := xFd h3
    obtain ⟨x1, x2, x3⟩ := hx
    have hsz := d3.size
    have hw1 : w.heap.size ≤ w1.heap.size := by
      have := (Array.getElem?_eq_some_iff.1 g3).1
      omega
    refine ⟨x1.obj h3 hn h2 (by simp) (.inl (by omega)), x2.obj h3 hn h2 (by simp) (fun _ => h1), x3.keeps (KeepsG.obj KeepsG.refl0 h3 hn h2 (by simp) (fun h => ?_) : KeepsG (fun k' => k' ≠ k) _ _ _ _ _ _ _ _) ?_⟩
    · exact absurd rfl h
    · rintro rfl
      obtain ⟨_, r3, hr3', _⟩ := x3
      rw [hr3'] at h3
      cases h3
end
end Go.V
set_option linter.unusedVariables false
set_option linter.unusedSimpArgs false
namespace Go.V
def xDI : VOp → Bool
  | .call _ _ => false
  | _ => true
section
variable {P : Program} {nt : Nat} {os : List VOper} {K : St → Prop} {lvl : Nat} {tm : Tmps} {hp : Heap} {d : Option Nat} {op : VOp} {site : Nat} {pre : List Nat} {v : PV} {ws : List (Bid × Blk)} {rd : List Bid} {acc : List Foot}
theorem xGd {lvl site : Nat} {tf : TF} {hf : HF} {op : VOp} {r : Res} (hv : vop lvl site tf hf op = some r) (hn : xDI op = true) : OpOk P lvl site tf hf op r := by
  cases op <;> first | exact hv | cases hn
theorem sq1f {i t : Nat} {b want : Bool} (hb : tget tm t = some (.bool b)) (hne : b = !want) (h : SeqT P nt os K ⟨lvl, tput tm d (.tup []), hp⟩) : SeqT P nt (⟨d, op, some (i, t, want), site, pre⟩ :: os) K ⟨lvl, tm, hp⟩ :=
  xUs hb (by subst hne; cases want <;> simp) h
theorem sq1u {i t : Nat} {want : Bool} (hb : tget tm t = some (.tup [])) (h : SeqT P nt os K ⟨lvl, tput tm d (.tup []), hp⟩) : SeqT P nt (⟨d, op, some (i, t, want), site, pre⟩ :: os) K ⟨lvl, tm, hp⟩ := by
  refine xEC (r := ⟨.tup [], [], []⟩) (.inl ⟨?_, rfl⟩) h
  have : xCu ⟨d, op, some (i, t, want), site, pre⟩ (tget tm) = (match tget tm t with | some (.bool b) => some (b == want) | some (.tup []) => some false | _ => none) := rfl
  rw [this, hb]
theorem xGn {i t : Nat} {want b : Bool} (hb : tget tm t = some (.bool b)) : xCu ⟨d, op, some (i, t, want), site, pre⟩ (tget tm) = some (b == want) := by
  have : xCu ⟨d, op, some (i, t, want), site, pre⟩ (tget tm) = (match tget tm t with | some (.bool b) => some (b == want) | some (.tup []) => some false | _ => none) := rfl
  rw [this, hb]
theorem dr1f {i t : Nat} {want b : Bool} (hb : tget tm t = some (.bool b)) (hne : b = !want) (h : xAz P true os (acc ++ [([], [])]) ⟨lvl, tput tm d (.tup []), hp⟩ K) : xAz P true (⟨d, op, some (i, t, want), site, pre⟩ :: os) acc ⟨lvl, tm, hp⟩ K :=
  .inl ⟨by rw [xGn hb, hne]; cases want <;> rfl, h⟩
theorem dr1u {i t : Nat} {want : Bool} (hb : tget tm t = some (.tup [])) (h : xAz P true os (acc ++ [([], [])]) ⟨lvl, tput tm d (.tup []), hp⟩ K) : xAz P true (⟨d, op, some (i, t, want), site, pre⟩ :: os) acc ⟨lvl, tm, hp⟩ K := by
  refine .inl ⟨?_, h⟩
  have : xCu ⟨d, op, some (i, t, want), site, pre⟩ (tget tm) = (match tget tm t with | some (.bool b) => some (b == want) | some (.tup []) => some false | _ => none) := rfl
  rw [this, hb]
def xJD (tm : Tmps) : Tmps → Prop
  | [] => True
  | (t, v) :: r => tget tm t = some v ∧ xJD tm r
def xFq (h : Heap) : Heap → Prop
  | [] => True
  | (b, B) :: r => hget h b = some B ∧ xFq h r
def nmOk (h : Heap) (l : List Bid) : Prop := ∀ b ∈ l, (hget h b).isSome = true
def xM6 (h : Heap) : Tmps → Prop
  | [] => True
  | (_, v) :: r => nmOk h (xBQ v) ∧ xM6 h r
def xJA (h : Heap) : Heap → Prop
  | [] => True
  | (_, B) :: r => nmOk h (xFN B) ∧ xJA h r
def xGB (h' : Heap) : Heap → Prop
  | [] => True
  | (b, _) :: r => (b.lvl = 0 → (hget h' b).isSome = true) ∧ xGB h' r
theorem xF2 {h : Heap} : nmOk h [] := fun b hb => by cases hb
theorem xNf {h : Heap} {b : Bid} (hb : (hget h b).isSome = true) : nmOk h [b] := fun c hc => by
  simp at hc; subst hc; exact hb
theorem xG5 {v : PV} (h : closed v = true) : xBQ v = [] := by
  cases v <;> first
    | rfl
    | (simp [closed] at h; done)
    | skip
  rename_i f cs
  cases cs with
  | nil => rfl
  | cons c r => simp [closed] at h
theorem xA8 {h : Heap} {v : PV} (hc : closed v = true) : nmOk h (xBQ v) := by rw [xG5 hc]; exact xF2
theorem xJz {tm : Tmps} : ∀ {l : Tmps}, xJD tm l → ∀ t v, tget l t = some v → tget tm t = some v
  | [], _, t, v, h => by cases h
  | (t', u) :: l, hl, t, v, h => by
    rw [xBW] at h
    split at h
    · rename_i he; cases h; subst he; exact hl.1
    · exact xJz hl.2 t v h
theorem xJB {hp : Heap} : ∀ {l : Heap}, xFq hp l → ∀ t v, hget l t = some v → hget hp t = some v
  | [], _, t, v, h => by cases h
  | (t', u) :: l, hl, t, v, h => by
    rw [xBA] at h
    split at h
    · rename_i he; cases h; subst he; exact hl.1
    · exact xJB hl.2 t v h
theorem xME {h : Heap} : ∀ {l : Tmps}, xM6 h l → ∀ t v, tget l t = some v → nmOk h (xBQ v)
  | [], _, t, v, h => by cases h
  | (t', u) :: l, hl, t, v, h => by
    rw [xBW] at h
    split at h
    · rename_i he; cases h; exact hl.1
    · exact xME hl.2 t v h
theorem xJy {h : Heap} : ∀ {l : Heap}, xJA h l → ∀ t v, hget l t = some v → nmOk h (xFN v)
  | [], _, t, v, h => by cases h
  | (t', u) :: l, hl, t, v, h => by
    rw [xBA] at h
    split at h
    · rename_i he; cases h; exact hl.1
    · exact xJy hl.2 t v h
theorem xJi {h' : Heap} : ∀ {l : Heap}, xGB h' l → ∀ b B, hget l b = some B → b.lvl = 0 → (hget h' b).isSome = true
  | [], _, t, v, h, _ => by cases h
  | (t', u) :: l, hl, t, v, h, h0 => by
    rw [xBA] at h
    split at h
    · rename_i he; subst he; exact hl.1 h0
    · exact xJi hl.2 t v h h0
theorem Imp.to {tm tm' : Tmps} {hp hp' : Heap} (h1 : xJD tm tm') (h2 : xFq hp hp') (h3 : xM6 hp' tm') (h4 : xJA hp' hp') (h5 : xGB hp' hp) : Imp ⟨lvl, tm, hp⟩ ⟨lvl, tm', hp'⟩ := by
  have same : ∀ b, (hget hp' b).isSome = true → hget hp' b = hget hp b := by
    intro b hb
    cases h : hget hp' b with
    | none => rw [h] at hb; cases hb
    | some B => exact (xJB h2 b B h).symm
  refine Imp.sub (fun t v ht => ⟨xJz h1 t v ht, fun b hb => same b (xME h3 t v ht b hb)⟩) (fun b => ?_) (fun b B hb c hc => same c (xJy h4 b B hb c hc))
  show hget hp' b = hget hp b ∨ _
  cases h : hget hp' b with
  | some B => exact .inl (by rw [← h]; exact same b (by rw [h]; rfl))
  | none =>
    by_cases hl : b.lvl = 0
    · left
      cases hg : hget hp b with
      | none => rfl
      | some B =>
        have := xJi h5 b B hg hl
        rw [h] at this
        cases this
    · exact .inr ⟨rfl, hl⟩
theorem out1 {s : St} {t : Nat} {v u : PV} (h : tget s.tmps t = some u) (he : u = v) (hc : closed v = true) : Out [.tmp t] 0 v [] s := by
  subst he
  refine ⟨[], List.nodup_nil, (fun b hb => by cases hb), rfl, trivial, ?_, [u], ?_, ?_⟩
  · cases u <;> first | rfl | (simp [closed] at hc; done) | skip
    rename_i f cs; cases cs with | nil => rfl | cons c r => simp [closed] at hc
  · simp only [rdT, rdR, h]; rfl
  · cases u <;> first | rfl | (simp [closed] at hc; done) | skip
    rename_i f cs; cases cs with | nil => rfl | cons c r => simp [closed] at hc
end
def Sl (p : PV) (l : List (List PV)) : Prop := (p = .nils ∧ l = []) ∨ (p = .she ∧ l = []) ∨ ∃ ex, p = .sh ex l
section
variable {lvl site : Nat} {tf : TF} {hf : HF} {x y i : VX} {p q : PV} {l : List (List PV)} {k : IntKind} {n m : Int}
theorem Sl.closed {p : PV} {l : List (List PV)} (h : Sl p l) : closed p = true := by
  rcases h with ⟨rfl, _⟩ | ⟨rfl, _⟩ | ⟨ex, rfl⟩ <;> rfl
theorem Sl.sh {ex : Bool} {l : List (List PV)} : Sl (.sh ex l) l := .inr (.inr ⟨ex, rfl⟩)
theorem Sl.nils : Sl .nils [] := .inl ⟨rfl, rfl⟩
theorem v_len (hx : ev tf x = some p) (h : Sl p l) : vop lvl site tf hf (.len x) = some ⟨.int .i64 l.length, [], []⟩ := by
  simp only [vop, hx, Option.bind_some]
  rcases h with ⟨rfl, rfl⟩ | ⟨rfl, rfl⟩ | ⟨ex, rfl⟩ <;> rfl
theorem xUg {esz : Nat} (hx : ev tf x = some p) (h : Sl p l) (hi : ev tf i = some (.int k n)) (h0 : 0 ≤ n) {e : List PV} (he : l[n.toNat]? = some e) (hz : e.length = esz) : vop lvl site tf hf (.iaddr esz x i) = some ⟨.sptr l n.toNat 0, [], []⟩ := by
  have hlt := (List.getElem?_eq_some_iff.1 he).1
  simp only [vop, hx, hi, Option.bind_some]
  rcases h with ⟨rfl, rfl⟩ | ⟨rfl, rfl⟩ | ⟨ex, rfl⟩
  · simp at he
  · simp at he
  · simp only
    rw [if_pos ⟨h0, by omega, by rw [he]; simp [hz]⟩]
    rfl
theorem xMK {a j : Nat} {e : List PV} {v : PV} {nn : Nat} (hx : ev tf x = some (.sptr l a j)) (he : l[a]? = some e) (hv : e[j]? = some v) : vop lvl site tf hf (.load false nn x) = some ⟨v, [], []⟩ := by
  simp only [vop, hx, he, hv, Option.bind_some, Bool.false_eq_true, if_false]
  rfl
theorem xKz {a j : Nat} {e : List PV} {nn : Nat} (hx : ev tf x = some (.sptr l a j)) (he : l[a]? = some e) (hv : j + nn ≤ e.length) : vop lvl site tf hf (.load true nn x) = some ⟨.agg ((e.drop j).take nn), [], []⟩ := by
  simp only [vop, hx, he, Option.bind_some, if_true]
  rw [if_pos hv]
  rfl
theorem xUh (hx : ev tf x = some (.int k n)) (hy : ev tf y = some (.int k m)) (h : k.wrap (n + m) = n + m) : vop lvl site tf hf (.bin .add x y) = some ⟨.int k (n + m), [], []⟩ := by
  simp only [vop, hx, hy, Option.bind_some, bin, if_true, xEx, h]
  rfl
theorem v_sub (hx : ev tf x = some (.int k n)) (hy : ev tf y = some (.int k m)) (h : k.wrap (n - m) = n - m) : vop lvl site tf hf (.bin .sub x y) = some ⟨.int k (n - m), [], []⟩ := by
  simp only [vop, hx, hy, Option.bind_some, bin, if_true, xEx, h]
  rfl
theorem xUe {a b c : VX} {t : Bool} {v : PV} (hc : ev tf c = some (.bool t)) (ht : t = true) (ha : ev tf a = some v) : vop lvl site tf hf (.pick c a b) = some ⟨v, [], []⟩ := by
  subst ht
  simp only [vop, hc, ha, Option.bind_some]
  rfl
theorem xUf {a b c : VX} {t : Bool} {v : PV} (hc : ev tf c = some (.bool t)) (ht : t = false) (ha : ev tf b = some v) : vop lvl site tf hf (.pick c a b) = some ⟨v, [], []⟩ := by
  subst ht
  simp only [vop, hc, ha, Option.bind_some]
  rfl
theorem xB0 {n : Int} (h1 : -9223372036854775808 ≤ n) (h2 : n ≤ 9223372036854775807) : IntKind.i64.wrap n = n := by
  have e : IntKind.i64.wrap n = (let m := n % 18446744073709551616; if m ≥ 9223372036854775808 then m - 18446744073709551616 else m) := by
    simp [IntKind.wrap, IntKind.bits, IntKind.signed]
  rw [e]
  simp only
  split <;> omega
end
end Go.V
set_option linter.unusedVariables false
set_option linter.unusedSimpArgs false
namespace Go.V
def xJJ (hf : HF) (lvl site : Nat) : Nat → Prop
  | 0 => True
  | n + 1 => hf ⟨lvl, site + n⟩ = none ∧ xJJ hf lvl site n
theorem xD2 {hf : HF} {lvl site : Nat} : ∀ {n : Nat}, xJJ hf lvl site n → ∀ i, i < n → hf ⟨lvl, site + i⟩ = none
  | 0, _, i, hi => by omega
  | n + 1, h, i, hi => by
    by_cases he : i = n
    · subst he; exact h.1
    · exact xD2 h.2 i (by omega)
section
variable {P : Program} {lvl site : Nat} {tf : TF} {hf : HF} {f : VX} {xs : List VX} {fid : Nat} {caps ps qs : List PV} {rd : List Bid} {v v' : PV} {hin hout : List Blk}
theorem xUR {all : List PV} (ht : Targ tf f xs fid all) (h3 : xBe hf [] all = some (rd, qs)) (h4 : VC P fid qs [] v hout) (h5 : xJJ hf lvl site hout.length) (h6 : xM8 v hout) :
    OpC P lvl site (.call f xs) [] tf hf ⟨mapV (xBT [] lvl site) v, named (xBT [] lvl site) 0 hout, rd⟩ :=
  .inl ⟨[], false, fid, all, rd, qs, [], v, hout, ht, h3, rfl, List.nodup_nil, (fun b hb => by cases hb), h4, fun i hi => xD2 h5 i (by simpa using hi), fun _ => h6, by simp⟩
theorem call_f {all : List PV} (ht : Targ tf f xs fid all) (h3 : xBe hf [] all = some (rd, qs)) (h4 : VC P fid qs [] v hout) (h5 : xJJ hf lvl site hout.length) :
    OpC P lvl site (.call f xs) [] tf hf ⟨mapV (xBT [] lvl site) v, frozen hf rd ++ named (xBT [] lvl site) 0 hout, rd⟩ :=
  .inl ⟨[], true, fid, all, rd, qs, [], v, hout, ht, h3, rfl, List.nodup_nil, (fun b hb => by cases hb), h4, fun i hi => xD2 h5 i (by simpa using hi), (fun h => by cases h), by simp⟩
theorem call_l {all : List PV} (lent : List Bid) (ht : Targ tf f xs fid all) (h3 : xBe hf lent all = some ([], qs)) (h0 : xCM hf lent lent = some hin) (hn : lent.Nodup) (h4 : VC P fid qs hin v hout) (h5 : xJJ hf lvl site (hout.length - lent.length)) :
    OpC P lvl site (.call f xs) [] tf hf ⟨mapV (xBT lent lvl site) v, named (xBT lent lvl site) 0 hout, lent⟩ :=
  .inl ⟨lent, true, fid, all, [], qs, hin, v, hout, ht, h3, h0, hn, (fun b _ hb => by cases hb), h4, fun i hi => xD2 h5 i hi, (fun h => by cases h), by simp [frozen]⟩
theorem call_x {all : List PV} (ht : Targ tf f xs fid all) (h3 : XC P hf fid all v rd) : OpC P lvl site (.call f xs) [] tf hf ⟨v, [], rd⟩ :=
  .inr ⟨fid, all, v, rd, ht, h3, rfl⟩
theorem xL9 (h : cV v = true) : xM8 v [] := ⟨h, fun B hB => by cases hB⟩
def CLe (p' p : PV) : Prop := ∀ (F : Nat → Prop) (w : World) (x : Value), CRel F w p' x → CRel F w p x
def SLe (p' p : PV) : Prop := ∀ (F : Nat → Prop) (μ : Bid → Option Nat) (hf : HF) (w : World) (x : Value), SRel F μ hf w p' x → SRel F μ hf w p x
def ALe (p' p : PV) : Prop := ∀ (F : Nat → Prop) (μ : Bid → Option Nat) (hf : HF) (w : World) (x : Value), ARel F μ hf w p' x → ARel F μ hf w p x
def PLe (p' p : PV) : Prop := ∀ (F : Nat → Prop) (μ : Bid → Option Nat) (hf : HF) (w : World) (x : Value), VRel F μ hf w p' x → VRel F μ hf w p x
theorem CLe.refl (p : PV) : CLe p p := fun _ _ _ h => h
theorem SLe.refl (p : PV) : SLe p p := fun _ _ _ _ _ h => h
theorem ALe.refl (p : PV) : ALe p p := fun _ _ _ _ _ h => h
theorem PLe.refl (p : PV) : PLe p p := fun _ _ _ _ _ h => h
theorem CLe.nils {ex : Bool} : CLe .nils (.sh ex []) := fun F w x h => by cases h; exact .shn ex
theorem CLe.she : CLe .she (.sh false []) := fun F w x h => by cases h; exact .sh0 false _ _ (by simp)
theorem CLe.shx {ex : Bool} {l : List (List PV)} : CLe (.sh ex l) (.sh false l) := fun F w x h => by
  cases h with
  | shn => exact .shn false
  | sh0 _ a cap hex => exact .sh0 false a cap (by simp)
  | sh _ _ k o cap esz g hF hcap hex hesz hlen hc hr => exact .sh false l k o cap esz g hF hcap (by simp) hesz hlen hc hr
theorem CLe.sl {p : PV} {l : List (List PV)} (h : Sl p l) : CLe p (.sh false l) := by
  rcases h with ⟨rfl, rfl⟩ | ⟨rfl, rfl⟩ | ⟨ex, rfl⟩
  · exact .nils
  · exact .she
  · exact .shx
theorem CLe.closed {p' p : PV} (h : CLe p' p) {F : Nat → Prop} {w : World} {x : Value} (hx : CRel F w p' x) : closed p = true := (h F w x hx).closed
theorem CLe.sh {ex : Bool} {l' l : List (List PV)} (h : l.length = l'.length) (he : ∀ (i : Nat) (e : List PV), l[i]? = some e → ∃ e', l'[i]? = some e' ∧ e.length = e'.length ∧ ∀ (j : Nat) (p : PV), e[j]? = some p → ∃ p', e'[j]? = some p' ∧ CLe p' p) : CLe (.sh ex l') (.sh ex l) := fun F w x hx => by
  cases hx with
  | shn => have : l = [] := List.eq_nil_of_length_eq_zero (by simpa using h); subst this; exact .shn ex
  | sh0 _ a cap hex => have : l = [] := List.eq_nil_of_length_eq_zero (by simpa using h); subst this; exact .sh0 ex a cap hex
  | sh _ _ k o cap esz g hF hcap hex hesz hlen hc hr =>
    rw [← h]
    refine .sh ex l k o cap esz g hF (by omega) (fun e => by rw [hex e, h]) hesz (fun e hm => ?_) (fun i j e p a b => ?_) (fun i j e p a b => ?_)
    · obtain ⟨i, hi⟩ := List.mem_iff_getElem?.1 hm
      obtain ⟨e', h1, h2, _⟩ := he i e hi
      rw [h2]; exact hlen e' (List.mem_of_getElem? h1)
    · obtain ⟨e', h1, _, h3⟩ := he i e a
      obtain ⟨p', h4, _⟩ := h3 j p b
      exact hc i j e' p' h1 h4
    · obtain ⟨e', h1, _, h3⟩ := he i e a
      obtain ⟨p', h4, h5⟩ := h3 j p b
      exact h5 F w _ (hr i j e' p' h1 h4)
theorem CLe.s {p' p : PV} (h : CLe p' p) (hc : V.closed p' = true) : SLe p' p := fun F μ hf w x hx => by
  have h1 := (SRel.of_closed hc).1 hx
  have h2 := h F w x h1
  exact (SRel.of_closed h2.closed).2 h2
theorem SLe.a {p' p : PV} (h : SLe p' p) (hc : xCO p' = true) : ALe p' p := fun F μ hf w x hx => by
  have h1 : SRel F μ hf w p' x := by
    cases p' <;> first | exact hx | (simp [xCO] at hc; done)
  exact ARel.of_S' (h F μ hf w x h1)
theorem ALe.p {p' p : PV} (h : ALe p' p) (hc : ∀ l, p' ≠ .tup l) : PLe p' p := fun F μ hf w x hx => by
  have h1 : ARel F μ hf w p' x := by
    cases p' <;> first | exact hx | exact (hc _ rfl).elim
  have h2 := h F μ hf w x h1
  cases p <;> first
    | exact h2
    | (cases h2; done)
    | (obtain ⟨_⟩ := h2; done)
theorem PLe.sl {p : PV} {l : List (List PV)} (h : Sl p l) : PLe p (.sh false l) :=
  (((CLe.sl h).s h.closed).a (by rcases h with ⟨rfl, _⟩ | ⟨rfl, _⟩ | ⟨ex, rfl⟩ <;> rfl)).p (by rcases h with ⟨rfl, _⟩ | ⟨rfl, _⟩ | ⟨ex, rfl⟩ <;> (intro l h; cases h))
inductive All2 (R : PV → PV → Prop) : List PV → List PV → Prop
  | nil : All2 R [] []
  | cons {a b : PV} {l r : List PV} (h : R a b) (t : All2 R l r) : All2 R (a :: l) (b :: r)
theorem All2.len {R : PV → PV → Prop} : ∀ {l r : List PV}, All2 R l r → l.length = r.length
  | _, _, .nil => rfl
  | _, _, .cons _ t => by simp [t.len]
theorem All2.get {R : PV → PV → Prop} : ∀ {l r : List PV}, All2 R l r → ∀ (i : Nat) (b : PV), r[i]? = some b → ∃ a, l[i]? = some a ∧ R a b
  | _, _, .nil, i, b, h => by simp at h
  | _, _, .cons h t, i, b, hb => by
    cases i with
    | zero => simp at hb; subst hb; exact ⟨_, rfl, h⟩
    | succ i => exact t.get i b (by simpa using hb)
theorem ALe.agg {cs' cs : List PV} (h : All2 SLe cs' cs) : ALe (.agg cs') (.agg cs) := fun F μ hf w x hx => by
  obtain ⟨vs, rfl, hs, hr⟩ := hx
  refine ⟨vs, rfl, by rw [hs, h.len], fun i q y a1 a2 => ?_⟩
  obtain ⟨q', h1, h2⟩ := h.get i q a1
  exact h2 _ _ _ _ _ (hr i q' y h1 a2)
theorem PLe.agg {cs' cs : List PV} (h : All2 SLe cs' cs) : PLe (.agg cs') (.agg cs) := (ALe.agg h).p (by intro l h; cases h)
theorem PLe.tup {cs' cs : List PV} (h : All2 ALe cs' cs) : PLe (.tup cs') (.tup cs) := fun F μ hf w x hx => by
  obtain ⟨vs, rfl, hs, hr⟩ := hx
  refine ⟨vs, rfl, by rw [hs, h.len], fun i q y a1 a2 => ?_⟩
  obtain ⟨q', h1, h2⟩ := h.get i q a1
  exact h2 _ _ _ _ _ (hr i q' y h1 a2)
theorem xCQ {args args' : List PV} (h : VC P fid args hin v hout) (ha : All2 PLe args' args) (hv : PLe v v') : VC P fid args' hin v' hout := by
  refine ⟨h.1, fun w F μ rargs hI hsz hargs => (h.2 w F μ rargs hI (by rw [hsz, ha.len]) (fun i p x h1 h2 => ?_)).mono ?_⟩
  · obtain ⟨p', h3, h4⟩ := ha.get i p h1
    exact h4 _ _ _ _ _ (hargs i p' x h3 h2)
  · rintro e w' ⟨rv, F', μ', rfl, g1, g2, g3⟩
    exact ⟨rv, F', μ', rfl, g1, g2, hv _ _ _ _ _ g3⟩
theorem Inv.drop {Γ : Ctx} {F : Nat → Prop} {μ : Bid → Option Nat} {hf : HF} {w : World} (hI : Inv Γ F μ hf w) : Inv Γ F μ (resH []) w := by
  have hn : ∀ b B, resH [] b = some B → False := by
    intro b B h
    simp [resH] at h
  exact ⟨hI.os, hI.tape, hI.output, hI.size, hI.frame, hI.lt, hI.F0, hI.new, fun b B h => (hn b B h).elim, fun b b' B B' k h => (hn b B h).elim, fun b B k h => (hn b B h).elim, hI.gl⟩
theorem xEA {args : List PV} {q : PV} {rd : List Bid} (h : VC P fid args [] v hout) (hl : xCZ (resH hout) [] v = some (rd, q)) : VC P fid args [] q [] := by
  refine ⟨h.1, fun w F μ rargs hI hsz hargs => (h.2 w F μ rargs hI hsz hargs).mono ?_⟩
  rintro e w' ⟨rv, F', μ', rfl, g1, g2, g3⟩
  obtain ⟨k1, k2⟩ := Inv.freezes rd g1 (xE9 hl)
  refine ⟨rv, _, μ', rfl, k1.drop, ⟨fun k hk => k2.sub k (g2.sub k hk), fun k hk => g2.mem k hk, (g2.trans k2).fre, fun b B hb => by simp [resH] at hb⟩, xEk g1 hl g3⟩
theorem xPK {args vs qs : List PV} {rd : List Bid} (h : VC P fid args [] (.tup vs) hout) (hl : xBe (resH hout) [] vs = some (rd, qs)) (hnt : ∀ q ∈ qs, ∀ l, q ≠ .tup l) (hnt' : ∀ q ∈ vs, ∀ l, q ≠ .tup l) : VC P fid args [] (.tup qs) [] := by
  refine ⟨h.1, fun w F μ rargs hI hsz hargs => (h.2 w F μ rargs hI hsz hargs).mono ?_⟩
  rintro e w' ⟨rv, F', μ', rfl, g1, g2, g3⟩
  obtain ⟨k1, k2⟩ := Inv.freezes rd g1 (xIN hl)
  refine ⟨rv, _, μ', rfl, k1.drop, ⟨fun k hk => k2.sub k (g2.sub k hk), fun k hk => g2.mem k hk, (g2.trans k2).fre, fun b B hb => by simp [resH] at hb⟩, ?_⟩
  obtain ⟨xs, rfl, hs, hr⟩ := g3
  obtain ⟨l1, l2⟩ := xGj g1 (hin := []) (lent := []) rfl vs qs rd hl (fun b hb => hb)
  refine ⟨xs, rfl, by rw [hs, l1], fun i q y a1 a2 => ?_⟩
  obtain ⟨p, h1, h2⟩ := l2 i q a1
  have h3 := h2 y (by
    have := hr i p y h1 a2
    cases p <;> first | exact this | exact (hnt' _ (List.mem_of_getElem? h1) _ rfl).elim)
  have h4 := xF6 (σ := id) (F' := xBn F' μ' rd) (μ' := μ') (hf' := resH []) (fun b B hB => by simp [resH] at hB) (.inr fun _ h => h) h3
  rw [xQp] at h4
  cases q <;> first | exact h4 | exact (hnt _ (List.mem_of_getElem? a1) _ rfl).elim
theorem Imp.nil {s : St} {t : Nat} {b : Bid} {esz : Nat} (ht : tget s.tmps t = some .nils) (hb : hget s.heap b = none) (hz : 0 < esz) : Imp s ⟨s.lvl, tset s.tmps t (.own b 0 0 0), hset s.heap b ⟨false, false, esz, []⟩⟩ := by
  rintro Γ nt a w ⟨F, μ, d1, d2, hI, hT, hK, hlv⟩
  obtain ⟨g1, g2⟩ := hI.upd (w' := w) b ⟨false, false, esz, []⟩ none F rfl rfl rfl (Nat.le_refl _) (fun _ _ _ => rfl) (fun k => by simp) (.inr (.inl rfl)) (fun B h => by rw [hb] at h; cases h) (fun B h => by rw [hb] at h; cases h) (fun hK => by
    refine ⟨⟨hz, (fun _ k c e fz hk => by simp [updM] at hk), fun _ _ k c e fz hk => by simp [updM] at hk⟩, (by simp), (by simp), (by simp), ?_⟩
    have : updM μ b none b = none := by simp [updM]
    rw [this]
    exact ⟨rfl, rfl⟩)
  have hh : hget (hset s.heap b ⟨false, false, esz, []⟩) = updH (hget s.heap) b ⟨false, false, esz, []⟩ := by
    funext c
    rw [xA9]; rfl
  refine ⟨F, updM μ b none, d1.keeps g2, d2, by rw [hh]; exact g1, fun t' p h => ?_, by rw [hh]; exact hK.tr g2, hlv⟩
  rw [hh]
  simp only [xDB] at h
  split at h
  · rename_i he
    cases h
    subst he
    have := xCD (hT t' _ ht)
    rw [this]
    refine ⟨none, 0, rfl, by simp, _, xCR, rfl, Nat.le_refl _, fun _ => ⟨Nat.le_refl _, ?_⟩⟩
    have e : updM μ b none b = none := by simp [updM]
    rw [e]
    exact ⟨rfl, rfl, rfl, rfl⟩
  · exact (hT t' p h).keeps g2
end
end Go.V
set_option linter.unusedVariables false
set_option linter.unusedSimpArgs false
namespace Go.V
section
variable {lvl site : Nat} {tf : TF} {hf : HF} {x y i : VX} {p q : PV} {l : List (List PV)} {k : IntKind} {n m : Int} {b c : Bid} {hw off len esz : Nat} {B : Blk}
def okEls (esz : Nat) (l : List (List PV)) : Prop := ∀ e ∈ l, e.length = esz ∧ ∀ c ∈ e, closed c = true
theorem okEls.nil : okEls esz [] := fun e h => by cases h
theorem okEls.cons {e : List PV} {l : List (List PV)} (h1 : e.length = esz) (h2 : ∀ c ∈ e, closed c = true) (h : okEls esz l) : okEls esz (e :: l) := fun e' he => by
  rcases List.mem_cons.1 he with rfl | he
  · exact ⟨h1, h2⟩
  · exact h e' he
theorem okEls.app {l r : List (List PV)} (h1 : okEls esz l) (h2 : okEls esz r) : okEls esz (l ++ r) := fun e he => by
  rcases List.mem_append.1 he with he | he
  · exact h1 e he
  · exact h2 e he
theorem okEls.map {α : Type} {f : α → List PV} {xs : List α} (h : ∀ a, (f a).length = esz ∧ ∀ c ∈ f a, closed c = true) : okEls esz (xs.map f) := fun e he => by
  obtain ⟨a, _, rfl⟩ := List.mem_map.1 he
  exact h a
theorem xHl (hx : ev tf x = some (.own b hw off len)) (hi : ev tf i = some (.int k n)) (hb : hf b = some B) (hc : hw = B.els.length) (hz : B.esz = esz) (h0 : 0 ≤ n) (h1 : n < len) : vop lvl site tf hf (.iaddr esz x i) = some ⟨.ptr b hw (off + n.toNat) 0, [], [b]⟩ := by
  simp only [vop, hx, hi, hb, Option.bind_some]
  rw [if_pos ⟨hc, hz, h0, h1⟩]
theorem xOO {a j : Nat} {e : List PV} {v : PV} {nn : Nat} (hx : ev tf x = some (.ptr b hw a j)) (hb : hf b = some B) (hc : hw = B.els.length) (he : B.els[a]? = some e) (hv : e[j]? = some v) : vop lvl site tf hf (.load false nn x) = some ⟨v, [], [b]⟩ := by
  simp only [vop, hx, hb, he, hv, Option.bind_some, Bool.false_eq_true, if_false]
  rw [if_neg (by simp [hc])]
  rfl
theorem xML {a j : Nat} {e : List PV} {nn : Nat} (hx : ev tf x = some (.ptr b hw a j)) (hb : hf b = some B) (hc : hw = B.els.length) (he : B.els[a]? = some e) (hv : j + nn ≤ e.length) : vop lvl site tf hf (.load true nn x) = some ⟨.agg ((e.drop j).take nn), [], [b]⟩ := by
  simp only [vop, hx, hb, he, Option.bind_some, if_true]
  rw [if_neg (by simp [hc]), if_pos hv]
theorem xFV {a j : Nat} {e : List PV} {v : PV} {nn : Nat} (hx : ev tf x = some (.ptr b hw a j)) (hy : ev tf y = some v) (hb : hf b = some B) (hc : hw = B.els.length) (hz : B.frz = false) (he : B.els[a]? = some e) (hn : (xAY v).length = nn) (hj : j + nn ≤ e.length) (hs : (xAY v).all (xDV B.box) = true) :
    vop lvl site tf hf (.store nn x y) = some ⟨.dead, [(b, { B with els := B.els.set a (e.take j ++ xAY v ++ e.drop (j + nn)) })], [b]⟩ := by
  simp only [vop, hx, hy, hb, he, Option.bind_some]
  rw [if_pos ⟨hc, hz, hn, hj, hs⟩]
theorem xNB {bytes : Nat} {z : List PV} {els ys : List (List PV)} {rd : List Bid} (hx : ev tf x = some (.own b els.length 0 els.length)) (hy : ev tf y = some q) (hct : xAf hf q = some (rd, ys)) (hb : hf b = some ⟨false, false, esz, els⟩)
    (hok : okEls esz ys) (hz : z.length = esz) (h0 : 0 < esz) (hby : 0 < bytes) (hroom : (els.length + ys.length) * bytes ≤ xBB) :
    vop lvl site tf hf (.append esz bytes z x y) = some ⟨.own b (els ++ ys).length 0 (els ++ ys).length, [(b, ⟨false, false, esz, els ++ ys⟩)], b :: rd⟩ := by
  simp only [vop, hx, hy, hct, Option.bind_some]
  rw [if_pos ⟨hok, hz, h0, hby⟩, hb, Option.bind_some, if_pos ⟨rfl, rfl, rfl, rfl, by simp, .inl trivial, hroom⟩, if_pos ⟨trivial, trivial⟩]
theorem xPO {bytes : Nat} {z : List PV} {els : List (List PV)} {e : List PV} (hx : ev tf x = some (.own b els.length 0 els.length)) (hy : ev tf y = some (.own c 1 0 1)) (hcb : hf c = some ⟨false, false, esz, [e]⟩) (hb : hf b = some ⟨false, false, esz, els⟩)
    (hok : ∀ c ∈ e, closed c = true) (hl : e.length = esz) (hz : z.length = esz) (h0 : 0 < esz) (hby : 0 < bytes) (hroom : (els.length + 1) * bytes ≤ xBB) :
    vop lvl site tf hf (.append esz bytes z x y) = some ⟨.own b (els ++ [e]).length 0 (els ++ [e]).length, [(b, ⟨false, false, esz, els ++ [e]⟩)], [b, c]⟩ := by
  refine xNB (rd := [c]) (q := .own c 1 0 1) hx hy ?_ hb (.cons hl hok .nil) hz h0 hby hroom
  simp only [xAf, hcb, Option.bind_some]
  rfl
theorem xJ4 {bytes : Nat} {z : List PV} {ys : List (List PV)} {rd : List Bid} (hx : ev tf x = some .nils) (hy : ev tf y = some q) (hct : xAf hf q = some (rd, ys)) (hfree : hf ⟨lvl, site⟩ = none)
    (hok : okEls esz ys) (hz : z.length = esz) (h0 : 0 < esz) (hby : 0 < bytes) (hroom : ys.length * bytes ≤ xBB) :
    vop lvl site tf hf (.append esz bytes z x y) = some ⟨.own ⟨lvl, site⟩ ys.length 0 ys.length, [(⟨lvl, site⟩, ⟨false, false, esz, ys⟩)], rd⟩ := by
  simp only [vop, hx, hy, hct, Option.bind_some]
  rw [if_pos ⟨hok, hz, h0, hby⟩, if_pos ⟨hfree, hroom⟩]
theorem xDQ {els : List (List PV)} (hb : hf b = some B) (hbx : B.box = false) (hc : hw = B.els.length) (hl : off + len ≤ hw) : xAf hf (.own b hw off len) = some ([b], (B.els.drop off).take len) := by
  simp only [xAf, hb, Option.bind_some]
  rw [if_pos ⟨hc, hbx, hl⟩]
theorem xBf {els : List (List PV)} {fz : Bool} (hb : hf b = some ⟨false, fz, esz, els⟩) : xAf hf (.own b els.length 0 els.length) = some ([b], els) := by
  simp only [xAf]
  rw [hb, Option.bind_some, if_pos ⟨rfl, rfl, by simp⟩]
  simp
theorem xKy {bytes : Nat} {z : List PV} (hx : ev tf x = some (.int .i64 n)) (hy : ev tf y = some (.int .i64 m)) (hfree : hf ⟨lvl, site⟩ = none) (h0 : 0 ≤ n) (h1 : n ≤ m) (hby : 0 < bytes) (hroom : m * bytes ≤ xBB) (hz : 0 < z.length) (hzc : z.all closed = true) :
    vop lvl site tf hf (.mkslice bytes z x y) = some ⟨.own ⟨lvl, site⟩ n.toNat 0 n.toNat, [(⟨lvl, site⟩, ⟨false, false, z.length, List.replicate n.toNat z⟩)], []⟩ := by
  simp only [vop, hx, hy, Option.bind_some]
  rw [if_pos ⟨hfree, h0, h1, hby, hroom, hz, hzc⟩]
theorem xPN {ex : Bool} {lo hi mx : Option VX} {a z c : Int} (hx : ev tf x = some (.sh ex l)) (h1 : xAR tf 0 lo = some a) (h2 : xAR tf l.length hi = some z) (h3 : xAR tf l.length mx = some c) (ha : 0 ≤ a) (hz : a ≤ z) (hc : z ≤ c) (hl : c ≤ l.length) (he : ∀ e ∈ l, e.length = esz) :
    vop lvl site tf hf (.slsl esz x lo hi mx) = some ⟨.sh (if mx.isSome then decide (c = z) else (ex && decide (z = l.length))) ((l.drop a.toNat).take (z.toNat - a.toNat)), [], []⟩ := by
  simp only [vop, hx, h1, h2, h3, Option.bind_some]
  rw [if_pos ⟨ha, hz, hc, hl, he⟩]
  rfl
theorem xUd {lo hi : Option VX} {a z : Int} (hx : ev tf x = some (.own b hw off len)) (h1 : xAR tf 0 lo = some a) (h2 : xAR tf len hi = some z) (ha : 0 ≤ a) (hz : a ≤ z) (hl : z ≤ len) (hb : hf b = some B) (he : B.esz = esz) (hc : hw = B.els.length) :
    vop lvl site tf hf (.slsl esz x lo hi none) = some ⟨.own b hw (off + a.toNat) (z.toNat - a.toNat), [], [b]⟩ := by
  simp only [vop, hx, h1, h2, Option.bind_some]
  rw [if_pos ⟨rfl, ha, hz, .inl hl⟩, hb, Option.bind_some, if_pos ⟨he, hc⟩]
theorem xPM {lo hi : Option VX} {a z : Int} {s : List UInt8} (hx : ev tf x = some (.str s)) (h1 : xAR tf 0 lo = some a) (h2 : xAR tf s.length hi = some z) (ha : 0 ≤ a) (hz : a ≤ z) (hl : z ≤ s.length) :
    vop lvl site tf hf (.slstr x lo hi) = some ⟨.str ((s.drop a.toNat).take (z.toNat - a.toNat)), [], []⟩ := by
  simp only [vop, hx, h1, h2, Option.bind_some]
  rw [if_pos ⟨ha, hz, hl⟩]
  rfl
theorem v_cat {s r : List UInt8} (hx : ev tf x = some (.str s)) (hy : ev tf y = some (.str r)) (h : s.length + r.length ≤ 140737488355328) : vop lvl site tf hf (.bin .add x y) = some ⟨.str (s ++ r), [], []⟩ := by
  simp only [vop, hx, hy, Option.bind_some, bin, xOJ]
  rw [if_pos h]
  rfl
theorem v_rem (hx : ev tf x = some (.int k n)) (hy : ev tf y = some (.int k m)) (h : m ≠ 0) : vop lvl site tf hf (.bin .rem x y) = some ⟨.int k (n.tmod m), [], []⟩ := by
  simp only [vop, hx, hy, Option.bind_some, bin, if_true, xEx, if_neg h]
  rfl
theorem xR8 {s : List UInt8} {c : UInt8} (hx : ev tf x = some (.str s)) (hi : ev tf i = some (.int k n)) (h0 : 0 ≤ n) (hc : s[n.toNat]? = some c) : vop lvl site tf hf (.indexS x i) = some ⟨.int .u8 c.toNat, [], []⟩ := by
  simp only [vop, hx, hi, Option.bind_some, if_pos h0, hc]
  rfl
theorem xKM {s : St} {t : Nat} {b : Bid} {hw off len : Nat} {B : Blk} (h : tget s.tmps t = some (.own b hw off len)) (hb : hget s.heap b = some B) (hbx : B.box = false) (hl : b.lvl ≠ 0) : Out [.tmp t] 0 (.own ⟨0, 0⟩ hw off len) [B] s := by
  refine ⟨[b], by simp, (fun c hc => by simp at hc; subst hc; exact hl), rfl, ⟨?_, (fun h => by rw [hbx] at h; cases h), trivial⟩, rfl, [.own b hw off len], ?_, rfl⟩
  · show hget s.heap b = some (mapB _ B)
    rw [hb]
    unfold mapB
    rw [if_neg (by simp [hbx])]
  · simp only [rdT, rdR, h]; rfl
end
end Go.V
set_option linter.unusedVariables false
set_option linter.unusedSimpArgs false
namespace Go.V
section
variable {P : Program} {nt : Nat} {os : List VOper} {K : St → Prop} {lvl : Nat} {tm : Tmps} {hp : Heap} {t : Nat} {ex : Bool} {vc : VCode} {Q : Exit → St → Prop}
theorem xNO {Γ : Ctx} {a : Act} {w : World} (ht : tget tm t = some (.sh ex [])) (hR : RS Γ nt (tget tm) (hget hp) a w) : RS Γ nt (tget (tset tm t .nils)) (hget hp) a w ∨ RS Γ nt (tget (tset tm t .she)) (hget hp) a w := by
  obtain ⟨F, μ, d1, d2, hI, hT, hK, hlv⟩ := hR
  have key : ∀ q, VRel F μ (hget hp) w q (a.tmps.getD t undef) → RS Γ nt (tget (tset tm t q)) (hget hp) a w := by
    intro q hq
    refine ⟨F, μ, d1, d2, hI, fun t' p h => ?_, hK, hlv⟩
    rw [xDB] at h
    split at h
    · rename_i he; cases h; subst he; exact hq
    · exact hT t' p h
  have hv := xD0 (hT t _ ht)
  generalize hx : a.tmps.getD t undef = x at hv key
  cases hv with
  | shn => exact .inl (key _ (VRel.of_C .nils))
  | sh0 _ ad cap hex => exact .inr (key _ (VRel.of_C (.she _ _)))
  | sh _ _ k o cap esz g hF hcap hex hesz hlen hc hr => exact .inr (key _ (VRel.of_C (.she _ _)))
theorem xOE (ht : tget tm t = some (.sh ex [])) (h1 : CT P nt vc Q ⟨lvl, tset tm t .nils, hp⟩) (h2 : CT P nt vc Q ⟨lvl, tset tm t .she, hp⟩) : CT P nt vc Q ⟨lvl, tm, hp⟩ :=
  ⟨fun Γ c hc a w hR => (xNO ht hR).elim (fun hR => h1.run Γ c hc a w hR) (fun hR => h2.run Γ c hc a w hR)⟩
end
end Go.V
