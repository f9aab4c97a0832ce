/- The law EventFull holds: of 10000 ticks and some more the bytes are refused beyond 10000, both ways: for every input. -/
import Derived.Test.YtkjjdphlfbecdaaPAllx6
import Derived.Test.YtkjjdphlfbecdaaPAllx5
import Derived.Test.YtkjjdphlfbecdaaPAllx3
import Derived.Test.YtkjjdphlfbecdaaPAllx4
import Derived.Test.YtkjjdphlfbecdaaGvEvOpen
import Derived.Test.YtkjjdphlfbecdaaPAllx9
-- merged out of the texts of this work that it leads to

/- Events: few and small; the law's own beginnings, as printed. -/
namespace Go.Proofs.Ytkjjdphlfbecdaa.LAll
open Go.RowKit Go.Proofs.Ytkjjdphlfbecdaa.PAll Go.Proofs.YtkjjdphlfbecdaaW.PrintWords Go.Proofs.YtkjjdphlfbecdaaW.PrintLast Go.Proofs.YtkjjdphlfbecdaaW.PrintMore Go.Proofs.Ytkjjdphlfbecdaa
set_option linter.unusedVariables false
set_option linter.unusedSimpArgs false
theorem ew_id {n : Int} (h0 : -9223372036854775808 ≤ n) (h1 : n ≤ 9223372036854775807) : wrap64 n = n := by unfold wrap64; omega
def fewB (l : List S28) : Bool := (l.all fun x => decide ((x.f4.size : Int) ≤ 2000)) && decide ((l.length : Int) ≤ 60)
theorem rd_drop (l : List S28) (k : Nat) (h : k < l.length) : l.drop k = rd_T28 l (k : Int) :: l.drop (k + 1) := by
  rw [List.drop_eq_getElem_cons h]
  simp [rd_T28, List.getD_eq_getElem?_getD, List.getElem?_eq_getElem h]
theorem ev_few_loop (l : List S28) (hl : l.length ≤ 10000000000000) (d : Nat) : ∀ k : Nat, k + d = l.length → Ev (fun n => carousellaw22_Few.l0 n l l (l.length : Int) (k : Int)) (((l.drop k).all fun x => decide ((x.f4.size : Int) ≤ 2000)) && decide ((l.length : Int) ≤ 60)) := by
  induction d with
  | zero =>
    intro k hk
    refine Ev.step (f := fun _ => some (((l.drop k).all fun x => decide ((x.f4.size : Int) ≤ 2000)) && decide ((l.length : Int) ≤ 60))) (fun n => ?_) (Ev.now _)
    simp only [carousellaw22_Few.l0]
    rw [if_neg (by omega), List.drop_of_length_le (by omega)]
    simp
  | succ d ih =>
    intro k hk
    have hk2 : k < l.length := by omega
    rw [rd_drop l k hk2, List.all_cons]
    by_cases hb : ((rd_T28 l (k : Int)).f4.size : Int) > 2000
    · refine Ev.step (f := fun _ => some (((decide (((rd_T28 l (k : Int)).f4.size : Int) ≤ 2000)) && ((l.drop (k + 1)).all fun x => decide ((x.f4.size : Int) ≤ 2000))) && decide ((l.length : Int) ≤ 60))) (fun n => ?_) (Ev.now _)
      simp only [carousellaw22_Few.l0]
      rw [if_pos (by omega), if_pos (by omega), if_pos (by omega), if_pos hb, decide_eq_false (by omega)]
      rfl
    · rw [decide_eq_true (show ((rd_T28 l (k : Int)).f4.size : Int) ≤ 2000 by omega), Bool.true_and]
      refine Ev.step (fun n => ?_) (ih (k + 1) (by omega))
      simp only [carousellaw22_Few.l0]
      rw [if_pos (by omega), if_pos (by omega), if_pos (by omega), if_neg hb, ew_id (by omega) (by omega)]
      rfl
theorem ev_few (l : List S28) (hl : l.length ≤ 10000000000000) : Ev (fun n => carousellaw22_Few.f n l) (fewB l) :=
  ev_few_loop l hl l.length 0 (by omega)
theorem few_len {l : List S28} (h : fewB l = true) : l.length ≤ 60 ∧ ∀ x ∈ l, x.f4.size ≤ 2000 := by
  unfold fewB at h
  rw [Bool.and_eq_true] at h
  refine ⟨by have := of_decide_eq_true h.2; omega, fun x hx => ?_⟩
  have := of_decide_eq_true (List.all_eq_true.1 h.1 x hx)
  omega
theorem ev_awake : carousellaw22_Awake.f = some true := by decide +kernel
theorem ev_word (a : Int) (h0 : 0 ≤ a) (h1 : a ≤ 255) : carouselref22_Word.f a = some (Gv.evWord a) := by
  by_cases h : a ≤ 7
  · have hc : a = 0 ∨ a = 1 ∨ a = 2 ∨ a = 3 ∨ a = 4 ∨ a = 5 ∨ a = 6 ∨ a = 7 := by omega
    rcases hc with rfl | rfl | rfl | rfl | rfl | rfl | rfl | rfl <;> rfl
  · unfold carouselref22_Word.f Gv.evWord
    rw [Option.bind_some, if_neg (by omega), if_pos (by omega), if_neg (by omega), if_neg (by omega), if_neg (by omega), if_neg (by omega), if_neg (by omega), if_neg (by omega), if_neg (by omega), if_neg (by omega)]
theorem u8in {n : Int} (h : (Lit.int .u8 n).wf = true) : 0 ≤ n ∧ n ≤ 255 := by
  have hm : IntKind.u8.min = 0 := rfl
  have hx : IntKind.u8.max = 255 := rfl
  simp only [Lit.wf, Bool.and_eq_true, decide_eq_true_eq, hm, hx] at h
  exact h
def InU (x : S28) : Prop := (0 ≤ x.f0 ∧ x.f0 ≤ 255) ∧ (0 ≤ x.f1 ∧ x.f1 ≤ 255) ∧ (0 ≤ x.f2 ∧ x.f2 ≤ 255) ∧ (0 ≤ x.f3 ∧ x.f3 ≤ 255)
end Go.Proofs.Ytkjjdphlfbecdaa.LAll

/- Events: what the printed Close functions come to. -/
namespace Go.Proofs.Ytkjjdphlfbecdaa.LAll
open Go.RowKit Go.Proofs.Ytkjjdphlfbecdaa.PAll Go.Proofs.YtkjjdphlfbecdaaW.PrintWords Go.Proofs.YtkjjdphlfbecdaaW.PrintLast Go.Proofs.YtkjjdphlfbecdaaW.PrintMore Go.Proofs.Ytkjjdphlfbecdaa
set_option linter.unusedVariables false
set_option linter.unusedSimpArgs false
theorem close_f (l : List S28) (hl : l.length ≤ 1000000) (h : ∀ x ∈ l, InU x) : event_Close.f l = some (Gv.evClose (l.map event_Close.tup)) := by
  unfold event_Close.f
  exact if_pos ⟨hl, List.all_eq_true.2 fun x hx => decide_eq_true (by have := h x hx; unfold InU at this; omega)⟩
def to30 (x : S28) : S30 := ⟨x.f0, x.f1, x.f2, x.f3, x.f4⟩
theorem ref_f (l : List S28) (hl : l.length ≤ 1000000) (h : ∀ x ∈ l, InU x) : carouselref22_Close.f (l.map to30) = some (Gv.evClose (l.map event_Close.tup)) := by
  have hm : (l.map to30).map carouselref22_Close.tup = l.map event_Close.tup := by rw [List.map_map]; rfl
  unfold carouselref22_Close.f
  rw [hm]
  refine if_pos ⟨by rw [List.length_map]; exact hl, List.all_eq_true.2 fun x hx => decide_eq_true ?_⟩
  obtain ⟨y, hy, rfl⟩ := List.mem_map.1 hx
  have := h y hy
  unfold InU at this
  show 0 ≤ y.f0 ∧ y.f0 ≤ 255 ∧ 0 ≤ y.f1 ∧ y.f1 ≤ 255 ∧ 0 ≤ y.f2 ∧ y.f2 ≤ 255 ∧ 0 ≤ y.f3 ∧ y.f3 ≤ 255
  omega
end Go.Proofs.Ytkjjdphlfbecdaa.LAll

/- Events: what is closed is opened as it was, what is opened is closed as it was; by places. No program in sight. -/
namespace Go.Proofs.Ytkjjdphlfbecdaa.Gv
open Go.RowKit Go.Proofs.YtkjjdphlfbecdaaW.PrintWords Go.Proofs.YtkjjdphlfbecdaaW.PrintLast Go.Proofs.YtkjjdphlfbecdaaW.PrintMore
set_option linter.unusedVariables false
set_option linter.unusedSimpArgs false
def ba (l : List UInt8) : ByteArray := ⟨l.toArray⟩
theorem ba_self (s : ByteArray) : ba s.data.toList = s := rfl
theorem ba_list (l : List UInt8) : (ba l).data.toList = l := rfl
theorem ba_size (l : List UInt8) : (ba l).size = l.length := by rw [← data_length]; rfl
theorem ba_bytes (l : List UInt8) : bytesOf (ba l) = l.map fun b => (b.toNat : Int) := rfl
theorem ba_extract (l : List UInt8) (a b : Nat) : (ba l).extract a b = ba ((l.take b).drop a) := by
  apply bytesOf_inj
  rw [bytesOf_extract, ba_bytes, ba_bytes, List.map_drop, List.map_take]
theorem oneP_list (b0 b1 b2 b3 b4 b5 : UInt8) (r : List UInt8) : oneP (ba (b0 :: b1 :: b2 :: b3 :: b4 :: b5 :: r)) =
    if (r.length : Int) < (b4.toNat : Int) * 256 + (b5.toNat : Int) then (ez, ⟨#[]⟩, 1)
    else (((b0.toNat : Int), (b1.toNat : Int), (b2.toNat : Int), (b3.toNat : Int), ba (r.take (b4.toNat * 256 + b5.toNat))), ba (r.drop (b4.toNat * 256 + b5.toNat)), evWrong ((b0.toNat : Int), (b1.toNat : Int), (b2.toNat : Int), (b3.toNat : Int), ba (r.take (b4.toNat * 256 + b5.toNat)))) := by
  have hs : (ba (b0 :: b1 :: b2 :: b3 :: b4 :: b5 :: r)).size = r.length + 6 := by rw [ba_size]; rfl
  have hb : ∀ i : Nat, bt (ba (b0 :: b1 :: b2 :: b3 :: b4 :: b5 :: r)) (i : Int) = ((b0 :: b1 :: b2 :: b3 :: b4 :: b5 :: r).map fun b => (b.toNat : Int)).getD i 0 := fun i => by rw [bt_get, ba_bytes]; rfl
  have e0 : bt (ba (b0 :: b1 :: b2 :: b3 :: b4 :: b5 :: r)) 0 = b0.toNat := hb 0
  have e1 : bt (ba (b0 :: b1 :: b2 :: b3 :: b4 :: b5 :: r)) 1 = b1.toNat := hb 1
  have e2 : bt (ba (b0 :: b1 :: b2 :: b3 :: b4 :: b5 :: r)) 2 = b2.toNat := hb 2
  have e3 : bt (ba (b0 :: b1 :: b2 :: b3 :: b4 :: b5 :: r)) 3 = b3.toNat := hb 3
  have e4 : bt (ba (b0 :: b1 :: b2 :: b3 :: b4 :: b5 :: r)) 4 = b4.toNat := hb 4
  have e5 : bt (ba (b0 :: b1 :: b2 :: b3 :: b4 :: b5 :: r)) 5 = b5.toNat := hb 5
  have hx : (ba (b0 :: b1 :: b2 :: b3 :: b4 :: b5 :: r)).extract 6 (r.length + 6) = ba r := by
    rw [ba_extract, List.take_of_length_le (by simp)]; rfl
  have hn : ((b4.toNat : Int) * 256 + (b5.toNat : Int)).toNat = b4.toNat * 256 + b5.toNat := by omega
  unfold oneP
  rw [hs, if_neg (by omega), e0, e1, e2, e3, e4, e5, hx, ba_size, hn, ba_extract, ba_extract, List.take_length, List.drop_zero]
  by_cases h : (r.length : Int) < (b4.toNat : Int) * 256 + (b5.toNat : Int)
  · rw [if_pos h, if_pos (by omega)]
  · rw [if_neg h, if_neg (by omega)]
theorem u8_nat (n : Int) (h0 : 0 ≤ n) (h1 : n ≤ 255) : ((UInt8.ofNat n.toNat).toNat : Int) = n := by
  rw [UInt8.toNat_ofNat', Nat.mod_eq_of_lt (by omega)]; omega
theorem oneP_cons (e : Ev) (h : EvIn e) (hw : evWrong e = 0) (r : List UInt8) : oneP (ba (evBytes e ++ r)) = (e, ba r, 0) := by
  obtain ⟨k, a, b, c, s⟩ := e
  obtain ⟨⟨a0, a1⟩, ⟨b0, b1⟩, ⟨c0, c1⟩, d0, d1⟩ := h
  have hz := (evWrong_zero hw).2
  simp only at a0 a1 b0 b1 c0 c1 d0 d1 hz
  have hn4 := u8_nat ((s.size : Int) / 256) (by omega) (by omega)
  have hn5 := u8_nat ((s.size : Int) % 256) (by omega) (by omega)
  have he : evBytes (k, a, b, c, s) ++ r = UInt8.ofNat k.toNat :: UInt8.ofNat a.toNat :: UInt8.ofNat b.toNat :: UInt8.ofNat c.toNat :: UInt8.ofNat ((s.size : Int) / 256).toNat :: UInt8.ofNat ((s.size : Int) % 256).toNat :: (s.data.toList ++ r) := rfl
  have hnn : (UInt8.ofNat ((s.size : Int) / 256).toNat).toNat * 256 + (UInt8.ofNat ((s.size : Int) % 256).toNat).toNat = s.size := by omega
  have hl : (s.data.toList ++ r).length = s.size + r.length := by rw [List.length_append, data_length]
  rw [he, oneP_list, hnn, hn4, hn5, if_neg (by rw [hl]; omega), u8_nat k a0 a1, u8_nat a b0 b1, u8_nat b c0 c1, u8_nat c d0 d1]
  rw [List.take_left' (data_length s), List.drop_left' (data_length s), ba_self, hw]
theorem runP_app (l : List Ev) : ∀ (out : List Ev) (r : List UInt8), (∀ e ∈ l, EvIn e) → (∀ e ∈ l, evWrong e = 0) → out.length + l.length ≤ 10000 → runP (ba (evAll l ++ r)) out = runP (ba r) (out ++ l) := by
  induction l with
  | nil => intro out r _ _ _; rw [List.append_nil]; rfl
  | cons e l ih =>
    intro out r hi hw hl
    have hlen : out.length + (l.length + 1) ≤ 10000 := hl
    have hone := oneP_cons e (hi e (by simp)) (hw e (by simp)) (evAll l ++ r)
    have hsz : (ba (evBytes e ++ (evAll l ++ r))).size ≠ 0 := by rw [ba_size, List.length_append, evBytes_length]; omega
    have he : evAll (e :: l) ++ r = evBytes e ++ (evAll l ++ r) := by rw [show evAll (e :: l) = evBytes e ++ evAll l from rfl, List.append_assoc]
    rw [he, runP_on _ _ hsz (by omega) (by rw [hone]), hone]
    show runP (ba (evAll l ++ r)) (out ++ [e]) = _
    rw [ih (out ++ [e]) r (fun x hx => hi x (by simp [hx])) (fun x hx => hw x (by simp [hx])) (by rw [List.length_append, List.length_singleton]; omega), List.append_assoc]
    rfl
/-- What is closed is opened as it was. -/
theorem there_back (l : List Ev) (hi : ∀ e ∈ l, EvIn e) (hw : ∀ e ∈ l, evWrong e = 0) (hl : l.length ≤ 10000) : runP ⟨(evAll l).toArray⟩ [] = (l, 0) := by
  have h := runP_app l [] [] hi hw (by simpa using hl)
  rw [List.append_nil, List.nil_append] at h
  exact h.trans (runP_end _ _ rfl)
theorem too_many (l m : List Ev) (hi : ∀ e ∈ l, EvIn e) (hw : ∀ e ∈ l, evWrong e = 0) (hl : l.length = 10000) (hm : m ≠ []) : runP ⟨(evAll (l ++ m)).toArray⟩ [] = ([], 9) := by
  have h := runP_app l [] (evAll m) hi hw (by simp [hl])
  rw [List.nil_append, ← show evAll (l ++ m) = evAll l ++ evAll m from by simp [evAll]] at h
  refine h.trans (runP_full _ _ ?_ hl)
  rw [ba_size]
  cases m with
  | nil => exact absurd rfl hm
  | cons e m => rw [show evAll (e :: m) = evBytes e ++ evAll m from rfl, List.length_append, evBytes_length]; omega
theorem oneP_back (t : ByteArray) (h : t.size ≠ 0) (he : (oneP t).2.2 = 0) : evBytes (oneP t).1 ++ (oneP t).2.1.data.toList = t.data.toList ∧ evWrong (oneP t).1 = 0 ∧ EvIn (oneP t).1 := by
  obtain ⟨l, rfl⟩ : ∃ l, t = ba l := ⟨_, (ba_self t).symm⟩
  have h6 : ¬ l.length < 6 := by
    intro hlt
    rw [show oneP (ba l) = (ez, ⟨#[]⟩, 1) from if_pos (by rw [ba_size]; exact hlt)] at he
    exact absurd he (by decide)
  match l, h6 with
  | b0 :: b1 :: b2 :: b3 :: b4 :: b5 :: r, _ =>
    rw [oneP_list] at he ⊢
    by_cases hs : (r.length : Int) < (b4.toNat : Int) * 256 + (b5.toNat : Int)
    · rw [if_pos hs] at he; exact absurd he (by decide)
    · rw [if_neg hs] at he ⊢
      have hb : ∀ b : UInt8, b.toNat < 256 := fun b => b.toNat_lt
      have hsz : (ba (r.take (b4.toNat * 256 + b5.toNat))).size = b4.toNat * 256 + b5.toNat := by rw [ba_size, List.length_take]; omega
      have hu : ∀ b : UInt8, UInt8.ofNat ((b.toNat : Int)).toNat = b := fun b => by rw [Int.toNat_natCast]; exact UInt8.ofNat_toNat
      have h4 := hb b4
      have h5 := hb b5
      refine ⟨?_, he, ⟨by have := hb b0; simp only; omega, by have := hb b1; simp only; omega, by have := hb b2; simp only; omega, by have := hb b3; simp only; omega⟩⟩
      show evBytes ((b0.toNat : Int), (b1.toNat : Int), (b2.toNat : Int), (b3.toNat : Int), ba (r.take (b4.toNat * 256 + b5.toNat))) ++ r.drop (b4.toNat * 256 + b5.toNat) = _
      unfold evBytes evHead u8s
      simp only [hsz, List.map_cons, List.map_nil, ba_list, List.cons_append, List.nil_append, List.take_append_drop, hu]
      rw [show (((b4.toNat * 256 + b5.toNat : Nat) : Int) / 256).toNat = b4.toNat from by omega, show (((b4.toNat * 256 + b5.toNat : Nat) : Int) % 256).toNat = b5.toNat from by omega, UInt8.ofNat_toNat, UInt8.ofNat_toNat]
/-- What is opened is closed as it was. -/
theorem back_there (n : Nat) : ∀ (t : ByteArray) (out m : List Ev), t.size ≤ n → out.length ≤ 10000 → runP t out = (m, 0) → ∃ m', m = out ++ m' ∧ evAll m' = t.data.toList ∧ (∀ e ∈ m', evWrong e = 0) ∧ (∀ e ∈ m', EvIn e) ∧ m.length ≤ 10000 := by
  induction n with
  | zero =>
    intro t out m ht ho hr
    rw [runP_end t out (by omega)] at hr
    obtain ⟨rfl, _⟩ := Prod.mk.inj hr
    refine ⟨[], by simp, ?_, by simp, by simp, ho⟩
    rw [List.eq_nil_of_length_eq_zero ((data_length t).trans (by omega))]; rfl
  | succ n ih =>
    intro t out m ht ho hr
    by_cases hz : t.size = 0
    · rw [runP_end t out hz] at hr
      obtain ⟨rfl, _⟩ := Prod.mk.inj hr
      refine ⟨[], by simp, ?_, by simp, by simp, ho⟩
      rw [List.eq_nil_of_length_eq_zero ((data_length t).trans hz)]; rfl
    · by_cases hl : out.length = 10000
      · rw [runP_full t out hz hl] at hr; exact absurd (Prod.mk.inj hr).2 (by decide)
      · by_cases he : (oneP t).2.2 = 0
        · rw [runP_on t out hz hl he] at hr
          have hless := oneP_less t hz
          obtain ⟨m', hm, hb, hw, hi, hlm⟩ := ih _ _ _ (by omega) (by rw [List.length_append, List.length_singleton]; omega) hr
          obtain ⟨o1, o2, o3⟩ := oneP_back t hz he
          refine ⟨(oneP t).1 :: m', by rw [hm, List.append_assoc]; rfl, ?_, ?_, ?_, hlm⟩
          · rw [show evAll ((oneP t).1 :: m') = evBytes (oneP t).1 ++ evAll m' from rfl, hb, o1]
          · intro e hm2; rcases List.mem_cons.1 hm2 with rfl | h2
            · exact o2
            · exact hw e h2
          · intro e hm2; rcases List.mem_cons.1 hm2 with rfl | h2
            · exact o3
            · exact hi e h2
        · rw [runP_bad t out hz hl he] at hr; exact absurd (Prod.mk.inj hr).2 he
theorem open_close (t : ByteArray) (m : List Ev) (hr : runP t [] = (m, 0)) : evClose m = (t, 0) ∧ (∀ e ∈ m, EvIn e) ∧ m.length ≤ 10000 := by
  obtain ⟨m', hm, hb, hw, hi, hl⟩ := back_there t.size t [] m (Nat.le_refl _) (by simp) hr
  rw [List.nil_append] at hm
  subst hm
  refine ⟨?_, hi, hl⟩
  unfold evClose
  rw [if_pos (evFirst_ok m hw), if_neg (by omega), hb]
/-- Where something is wrong nothing is handed back. -/
theorem runP_err (n : Nat) : ∀ (t : ByteArray) (out : List Ev), t.size ≤ n → (runP t out).2 ≠ 0 → (runP t out).1 = [] := by
  induction n with
  | zero => intro t out ht h; rw [runP_end t out (by omega)] at h; exact absurd rfl h
  | succ n ih =>
    intro t out ht h
    by_cases hz : t.size = 0
    · rw [runP_end t out hz] at h; exact absurd rfl h
    · by_cases hl : out.length = 10000
      · rw [runP_full t out hz hl]
      · by_cases he : (oneP t).2.2 = 0
        · rw [runP_on t out hz hl he] at h ⊢
          have hless := oneP_less t hz
          exact ih _ _ (by omega) h
        · rw [runP_bad t out hz hl he]
theorem evFirst_zero (l : List Ev) (h : evFirst l = 0) : ∀ e ∈ l, evWrong e = 0 := by
  induction l with
  | nil => intro e he; simp at he
  | cons a l ih =>
    unfold evFirst at h
    by_cases ha : evWrong a = 0
    · rw [if_pos ha] at h
      intro e he
      rcases List.mem_cons.1 he with rfl | h2
      · exact ha
      · exact ih h e h2
    · rw [if_neg ha] at h; exact absurd h ha
theorem runP_len (t : ByteArray) : (runP t []).1.length ≤ 10000 := by
  by_cases h : (runP t []).2 = 0
  · exact (open_close t (runP t []).1 (by rw [← h])).2.2
  · rw [runP_err t.size t [] (Nat.le_refl _) h]; exact Nat.zero_le _
end Go.Proofs.Ytkjjdphlfbecdaa.Gv

/- Events by places. No program in sight. -/
namespace Go.Proofs.Ytkjjdphlfbecdaa.Gv
open Go.RowKit Go.Proofs.YtkjjdphlfbecdaaW.PrintWords Go.Proofs.YtkjjdphlfbecdaaW.PrintLast Go.Proofs.YtkjjdphlfbecdaaW.PrintMore
set_option linter.unusedVariables false
set_option linter.unusedSimpArgs false
theorem take_all (s : ByteArray) : (bytesOf s).take s.size = bytesOf s := List.take_of_length_le (by rw [bytesOf_length]; exact Nat.le_refl _)
theorem bt_suffix (s : ByteArray) (p i : Nat) : bt (s.extract p s.size) (i : Int) = bt s ((p : Int) + (i : Int)) := by
  rw [bt_get, bytesOf_extract, bt_get, take_all, getD_drop', show ((p : Int) + (i : Int)).toNat = p + i from by omega]
  rfl
theorem ext_size (s : ByteArray) (p : Nat) : (s.extract p s.size).size = s.size - p := by rw [ByteArray.size_extract]; omega
theorem ext_ext (s : ByteArray) (p : Nat) : (s.extract p s.size).extract 6 (s.size - p) = s.extract (p + 6) s.size := by
  apply bytesOf_inj
  rw [bytesOf_extract, bytesOf_extract, bytesOf_extract, take_all, List.take_of_length_le (by rw [List.length_drop, bytesOf_length]; omega), List.drop_drop]
theorem ext_head (s : ByteArray) (q n : Nat) : (s.extract q s.size).extract 0 n = s.extract q (q + n) := by
  apply bytesOf_inj
  rw [bytesOf_extract, bytesOf_extract, bytesOf_extract, take_all, List.drop_zero, List.drop_take, Nat.add_sub_cancel_left]
theorem ext_tail (s : ByteArray) (q n : Nat) : (s.extract q s.size).extract n (s.size - q) = s.extract (q + n) s.size := by
  apply bytesOf_inj
  rw [bytesOf_extract, bytesOf_extract, bytesOf_extract, take_all, List.take_of_length_le (by rw [List.length_drop, bytesOf_length]; omega), List.drop_drop]
theorem oneP_at (s : ByteArray) (p : Nat) : oneP (s.extract p s.size) =
    if s.size - p < 6 then (ez, ⟨#[]⟩, 1)
    else if (s.size : Int) - (p : Int) - 6 < bt s ((p : Int) + 4) * 256 + bt s ((p : Int) + 5) then (ez, ⟨#[]⟩, 1)
    else ((bt s (p : Int), bt s ((p : Int) + 1), bt s ((p : Int) + 2), bt s ((p : Int) + 3), s.extract (p + 6) (p + 6 + (bt s ((p : Int) + 4) * 256 + bt s ((p : Int) + 5)).toNat)), s.extract (p + 6 + (bt s ((p : Int) + 4) * 256 + bt s ((p : Int) + 5)).toNat) s.size,
      evWrong (bt s (p : Int), bt s ((p : Int) + 1), bt s ((p : Int) + 2), bt s ((p : Int) + 3), s.extract (p + 6) (p + 6 + (bt s ((p : Int) + 4) * 256 + bt s ((p : Int) + 5)).toNat))) := by
  have e0 : bt (s.extract p s.size) 0 = bt s (p : Int) := by have := bt_suffix s p 0; simpa using this
  have e1 : bt (s.extract p s.size) 1 = bt s ((p : Int) + 1) := bt_suffix s p 1
  have e2 : bt (s.extract p s.size) 2 = bt s ((p : Int) + 2) := bt_suffix s p 2
  have e3 : bt (s.extract p s.size) 3 = bt s ((p : Int) + 3) := bt_suffix s p 3
  have e4 : bt (s.extract p s.size) 4 = bt s ((p : Int) + 4) := bt_suffix s p 4
  have e5 : bt (s.extract p s.size) 5 = bt s ((p : Int) + 5) := bt_suffix s p 5
  unfold oneP
  rw [ext_size, e0, e1, e2, e3, e4, e5, ext_ext, ext_size, ext_head, ext_tail]
  by_cases h6 : s.size - p < 6
  · rw [if_pos h6, if_pos h6]
  · rw [if_neg h6, if_neg h6, show ((s.size - p : Nat) : Int) = (s.size : Int) - (p : Int) from by omega]
end Go.Proofs.Ytkjjdphlfbecdaa.Gv

/- Events: the document's Open by places comes to the plain word. -/
namespace Go.Proofs.Ytkjjdphlfbecdaa.LAll
open Go.RowKit Go.Proofs.Ytkjjdphlfbecdaa.PAll Go.Proofs.YtkjjdphlfbecdaaW.PrintWords Go.Proofs.YtkjjdphlfbecdaaW.PrintLast Go.Proofs.YtkjjdphlfbecdaaW.PrintMore Go.Proofs.Ytkjjdphlfbecdaa
set_option linter.unusedVariables false
set_option linter.unusedSimpArgs false
def r30 (e : Gv.Ev) : S30 := ⟨e.1, e.2.1, e.2.2.1, e.2.2.2.1, e.2.2.2.2⟩
theorem wraps (S P B4 B5 : Int) (h0 : 0 ≤ S) (h1 : S ≤ 100000) (h2 : 0 ≤ P) (h3 : P ≤ S) (h4 : 0 ≤ B4) (h5 : B4 ≤ 255) (h6 : 0 ≤ B5) (h7 : B5 ≤ 255) :
    (wrap64 (S - P) = S - P ∧ wrap64 (P + 4) = P + 4 ∧ wrap64 (P + 5) = P + 5 ∧ wrap64 (S - P - 6) = S - P - 6 ∧ wrap64 B4 = B4 ∧ wrap64 B5 = B5 ∧ wrap64 (B4 * 256) = B4 * 256) ∧
    wrap64 (B4 * 256 + B5) = B4 * 256 + B5 ∧ wrap64 (P + 1) = P + 1 ∧ wrap64 (P + 2) = P + 2 ∧ wrap64 (P + 3) = P + 3 ∧ wrap64 (P + 6) = P + 6 ∧ wrap64 (P + 6 + (B4 * 256 + B5)) = P + 6 + (B4 * 256 + B5) := by
  refine ⟨⟨?_, ?_, ?_, ?_, ?_, ?_, ?_⟩, ?_, ?_, ?_, ?_, ?_, ?_⟩ <;> exact ew_id (by omega) (by omega)
set_option maxHeartbeats 2000000 in
theorem ref_loop (s : ByteArray) (hs : s.size ≤ 100000) (d : Nat) : ∀ (p : Nat) (out : List Gv.Ev), p ≤ s.size → s.size - p ≤ d → out.length ≤ 10000 →
    Ev (fun k => carouselref22_Open.l0 k s (out.map r30) (p : Int)) ((Gv.runP (s.extract p s.size) out).1.map r30, (Gv.runP (s.extract p s.size) out).2) := by
  induction d with
  | zero =>
    intro p out hp hd ho
    rw [Gv.runP_end _ out (by rw [Gv.ext_size]; omega)]
    refine Ev.step (f := fun _ => some (out.map r30, 0)) (fun n => ?_) (Ev.now _)
    simp only [carouselref22_Open.l0]
    rw [if_neg (by omega)]
  | succ d ih =>
    intro p out hp hd ho
    by_cases hz : p = s.size
    · rw [Gv.runP_end _ out (by rw [Gv.ext_size]; omega)]
      refine Ev.step (f := fun _ => some (out.map r30, 0)) (fun n => ?_) (Ev.now _)
      simp only [carouselref22_Open.l0]
      rw [if_neg (by omega)]
    · have hsz0 : (s.extract p s.size).size ≠ 0 := by rw [Gv.ext_size]; omega
      have HSZ := Lib.hid hsz0
      clear hsz0
      have hpl : (p : Int) < (s.size : Int) := by omega
      by_cases hl : out.length = 10000
      · rw [Gv.runP_full _ out HSZ.out hl]
        refine Ev.step (f := fun _ => some (([] : List S30), 9)) (fun n => ?_) (Ev.now _)
        simp only [carouselref22_Open.l0]
        rw [if_pos hpl, if_pos (by rw [List.length_map]; omega)]
      · have hlm : ¬ ((out.map r30).length : Int) = 10000 := by rw [List.length_map]; omega
        have hone := Gv.oneP_at s p
        have b4 := bt_range s ((p : Int) + 4)
        have b5 := bt_range s ((p : Int) + 5)
        obtain ⟨B0, hB0⟩ : ∃ B, bt s (p : Int) = B := ⟨_, rfl⟩
        obtain ⟨B1, hB1⟩ : ∃ B, bt s ((p : Int) + 1) = B := ⟨_, rfl⟩
        obtain ⟨B2, hB2⟩ : ∃ B, bt s ((p : Int) + 2) = B := ⟨_, rfl⟩
        obtain ⟨B3, hB3⟩ : ∃ B, bt s ((p : Int) + 3) = B := ⟨_, rfl⟩
        obtain ⟨B4, hB4⟩ : ∃ B, bt s ((p : Int) + 4) = B := ⟨_, rfl⟩
        obtain ⟨B5, hB5⟩ : ∃ B, bt s ((p : Int) + 5) = B := ⟨_, rfl⟩
        rw [hB4] at b4
        rw [hB5] at b5
        rw [hB0, hB1, hB2, hB3, hB4, hB5] at hone
        have W := Lib.hid (wraps (s.size : Int) (p : Int) B4 B5 (by omega) (by omega) (by omega) (by omega) b4.1 b4.2 b5.1 b5.2)
        have hn0 : 0 ≤ B4 * 256 + B5 := by omega
        by_cases h6 : s.size - p < 6
        · rw [if_pos h6] at hone
          rw [Gv.runP_bad _ out HSZ.out hl (by rw [hone]; exact (by decide : (1 : Int) ≠ 0)), hone]
          refine Ev.step (f := fun _ => some (([] : List S30), 1)) (fun n => ?_) (Ev.now _)
          simp only [carouselref22_Open.l0]
          rw [if_pos hpl, if_neg hlm, W.out.1.1, if_pos (by omega)]
        · rw [if_neg h6] at hone
          by_cases hn : (s.size : Int) - (p : Int) - 6 < B4 * 256 + B5
          · rw [if_pos hn] at hone
            rw [Gv.runP_bad _ out HSZ.out hl (by rw [hone]; exact (by decide : (1 : Int) ≠ 0)), hone]
            refine Ev.step (f := fun _ => some (([] : List S30), 1)) (fun n => ?_) (Ev.now _)
            obtain ⟨⟨w1, w2, w3, w4, w5, w6, w7⟩, w8, w9, w10, w11, w12, w13⟩ := W.out
            simp only [carouselref22_Open.l0, w1, w2, w3, w4, hB0, hB4, hB5, w5, w6, w7, w8]
            clear w1 w2 w3 w4 w5 w6 w7 w8 w9 w10 w11 w12 w13
            rw [if_pos hpl, if_neg hlm, if_neg (by omega), if_pos (by omega), if_pos (by omega), if_pos (by omega), if_pos (by omega), if_pos hn]
          · rw [if_neg hn] at hone
            have hxs0 : (s.extract (p + 6) (p + 6 + (B4 * 256 + B5).toNat)).size = (B4 * 256 + B5).toNat := by rw [ByteArray.size_extract]; omega
            have HXS := Lib.hid hxs0
            clear hxs0
            by_cases h7 : B0 > 7
            · have hw : (Gv.oneP (s.extract p s.size)).2.2 = 10 := by rw [hone]; exact if_pos h7
              rw [Gv.runP_bad _ out HSZ.out hl (by rw [hw]; decide), hw]
              refine Ev.step (f := fun _ => some (([] : List S30), 10)) (fun n => ?_) (Ev.now _)
              obtain ⟨⟨w1, w2, w3, w4, w5, w6, w7⟩, w8, w9, w10, w11, w12, w13⟩ := W.out
              simp only [carouselref22_Open.l0, w1, w2, w3, w4, hB0, hB4, hB5, w5, w6, w7, w8]
              clear w1 w2 w3 w4 w5 w6 w7 w8 w9 w10 w11 w12 w13
              rw [if_pos hpl, if_neg hlm, if_neg (by omega), if_pos (by omega), if_pos (by omega), if_pos (by omega), if_pos (by omega), if_neg hn, if_pos (by omega), if_pos h7]
            · by_cases h16 : B4 * 256 + B5 > 1600
              · have hw : (Gv.oneP (s.extract p s.size)).2.2 = 2 := by rw [hone]; exact (if_neg h7).trans (if_pos (by show (Int.ofNat _ : Int) > 1600; rw [HXS.out]; show (((B4 * 256 + B5).toNat : Nat) : Int) > 1600; omega))
                rw [Gv.runP_bad _ out HSZ.out hl (by rw [hw]; decide), hw]
                refine Ev.step (f := fun _ => some (([] : List S30), 2)) (fun n => ?_) (Ev.now _)
                obtain ⟨⟨w1, w2, w3, w4, w5, w6, w7⟩, w8, w9, w10, w11, w12, w13⟩ := W.out
                simp only [carouselref22_Open.l0, w1, w2, w3, w4, hB0, hB4, hB5, w5, w6, w7, w8]
                clear w1 w2 w3 w4 w5 w6 w7 w8 w9 w10 w11 w12 w13
                rw [if_pos hpl, if_neg hlm, if_neg (by omega), if_pos (by omega), if_pos (by omega), if_pos (by omega), if_pos (by omega), if_neg hn, if_pos (by omega), if_neg h7, if_pos h16]
              · have hw : (Gv.oneP (s.extract p s.size)).2.2 = 0 := by rw [hone]; exact (if_neg h7).trans (if_neg (by show ¬ (Int.ofNat _ : Int) > 1600; rw [HXS.out]; show ¬ (((B4 * 256 + B5).toNat : Nat) : Int) > 1600; omega))
                rw [Gv.runP_on _ out HSZ.out hl hw, hone]
                have hi := ih (p + 6 + (B4 * 256 + B5).toNat) (out ++ [(B0, B1, B2, B3, s.extract (p + 6) (p + 6 + (B4 * 256 + B5).toNat))]) (by omega) (by omega) (by rw [List.length_append, List.length_singleton]; omega)
                refine Ev.step (fun n => ?_) hi
                have hpn : ((p + 6 + (B4 * 256 + B5).toNat : Nat) : Int) = (p : Int) + 6 + (B4 * 256 + B5) := by omega
                have hp6 : ((p : Int) + 6).toNat = p + 6 := by omega
                have hp7 : ((p : Int) + 6 + (B4 * 256 + B5)).toNat = p + 6 + (B4 * 256 + B5).toNat := by omega
                obtain ⟨⟨w1, w2, w3, w4, w5, w6, w7⟩, w8, w9, w10, w11, w12, w13⟩ := W.out
                simp only [carouselref22_Open.l0, w1, w2, w3, w4, hB0, hB1, hB2, hB3, hB4, hB5, w5, w6, w7, w8, w9, w10, w11, w12, w13, hB1, hB2, hB3]
                clear w1 w2 w3 w4 w5 w6 w7 w8 w9 w10 w11 w12 w13
                rw [if_pos hpl, if_neg hlm, if_neg (by omega), if_pos (by omega), if_pos (by omega), if_pos (by omega), if_pos (by omega), if_neg hn, if_pos (by omega), if_neg h7, if_neg h16,
                  if_pos (by omega), if_pos (by omega), if_pos (by omega), if_pos (by omega), if_pos (by omega), if_pos (by omega), if_pos (by omega), if_pos (by omega), if_pos (by omega), if_pos (by rw [List.length_map]; omega), hp6, hp7, hpn, List.map_append]
                rfl
theorem ref_open (s : ByteArray) (hs : s.size ≤ 100000) : Ev (fun k => carouselref22_Open.f k s) ((Gv.runP s []).1.map r30, (Gv.runP s []).2) := by
  have h := ref_loop s hs s.size 0 [] (Nat.zero_le _) (by omega) (by simp)
  rw [show s.extract 0 s.size = s from by apply Gv.bytesOf_inj; rw [Gv.bytesOf_extract, Gv.take_all, List.drop_zero]] at h
  exact h
theorem open_f (s : ByteArray) (hs : s.size ≤ 100000) : event_Open.f s = some ((Gv.runP s []).1.map event_Open.mk, (Gv.runP s []).2) := if_pos hs
end Go.Proofs.Ytkjjdphlfbecdaa.LAll

namespace Go.Proofs.Ytkjjdphlfbecdaa.Pure
open Go.RowKit Go.Proofs.Ytkjjdphlfbecdaa.PAll Go.Proofs.YtkjjdphlfbecdaaW.PrintWords Go.Proofs.YtkjjdphlfbecdaaW.PrintLast Go.Proofs.YtkjjdphlfbecdaaW.PrintMore Go.Proofs.Ytkjjdphlfbecdaa Go.Proofs.Ytkjjdphlfbecdaa.LAll
set_option linter.unusedVariables false
set_option linter.unusedSimpArgs false
theorem ez_all (n : Nat) : (∀ e ∈ List.replicate n Gv.ez, Gv.EvIn e) ∧ (∀ e ∈ List.replicate n Gv.ez, Gv.evWrong e = 0) :=
  ⟨fun e he => by rw [List.eq_of_mem_replicate he]; exact ⟨⟨by decide, by decide⟩, ⟨by decide, by decide⟩, ⟨by decide, by decide⟩, by decide, by decide⟩, fun e he => by rw [List.eq_of_mem_replicate he]; decide⟩
theorem ez_bytes (n : Nat) : Gv.evAll (List.replicate n Gv.ez) = List.replicate (6 * n) 0 := by
  induction n with
  | zero => rfl
  | succ n ih =>
    rw [List.replicate_succ, show Gv.evAll (Gv.ez :: List.replicate n Gv.ez) = Gv.evBytes Gv.ez ++ Gv.evAll (List.replicate n Gv.ez) from rfl, ih, show 6 * (n + 1) = 6 + 6 * n from by omega, ← List.replicate_append_replicate]
    rfl
theorem ez_str (n : Nat) : strOfNums (List.replicate (6 * n) 0) = ⟨(Gv.evAll (List.replicate n Gv.ez)).toArray⟩ := by
  rw [ez_bytes]
  unfold strOfNums
  rw [List.map_replicate]
  rfl
theorem EventFull : carousellaw22_EventFull.Pure := by
  intro a ha
  have h := u8in ha
  have hk : ∃ k : Nat, wrap64 (9990 + wrap64 (Int.tmod a 20)) = (k : Int) ∧ 9990 ≤ k ∧ k ≤ 10009 := by
    have w1 : wrap64 (a % 20) = a % 20 := ew_id (by omega) (by omega)
    rw [Int.tmod_eq_emod_of_nonneg h.1, w1, ew_id (by omega) (by omega)]
    exact ⟨(9990 + a % 20).toNat, by omega, by omega, by omega⟩
  obtain ⟨k, hk, k0, k1⟩ := hk
  unfold carousellaw22_EventFull.f
  rw [hk]
  have h6 : wrap64 (6 * (k : Int)) = ((6 * k : Nat) : Int) := by rw [ew_id (by omega) (by omega)]; omega
  rw [h6, Int.toNat_natCast, Int.toNat_natCast, if_pos (by omega), if_pos (by omega), ez_str]
  have hin : ∀ x ∈ List.replicate k z28, InU x := fun x hx => by rw [List.eq_of_mem_replicate hx]; exact ⟨⟨by decide, by decide⟩, ⟨by decide, by decide⟩, ⟨by decide, by decide⟩, by decide, by decide⟩
  rw [close_f _ (by rw [List.length_replicate]; omega) hin, List.map_replicate, show event_Close.tup z28 = Gv.ez from rfl]
  have hsz : ((⟨(Gv.evAll (List.replicate k Gv.ez)).toArray⟩ : ByteArray)).size ≤ 100000 := by
    show (Gv.ba _).size ≤ 100000
    rw [Gv.ba_size, ez_bytes, List.length_replicate]; omega
  rw [open_f _ hsz, ev_awake]
  have hfi := Gv.evFirst_ok _ (ez_all k).2
  simp only [Option.bind_some, if_true]
  rw [if_pos (by omega), if_pos (by omega)]
  by_cases hbig : (k : Int) > 10000
  · rw [if_pos hbig]
    have hc : Gv.evClose (List.replicate k Gv.ez) = (⟨#[]⟩, 9) := by
      unfold Gv.evClose
      rw [if_pos hfi, if_pos (by rw [List.length_replicate]; omega)]
    have hr : Gv.runP ⟨(Gv.evAll (List.replicate k Gv.ez)).toArray⟩ [] = ([], 9) := by
      obtain ⟨T, hT⟩ : ∃ T : Nat, T = 10000 := ⟨_, rfl⟩
      have hsplit : List.replicate k Gv.ez = List.replicate T Gv.ez ++ List.replicate (k - T) Gv.ez := by rw [List.replicate_append_replicate]; congr 1; omega
      have hne : List.replicate (k - T) Gv.ez ≠ [] := by
        intro e
        have h := congrArg List.length e
        rw [List.length_replicate, List.length_nil] at h
        omega
      rw [hsplit]
      exact Gv.too_many _ _ (ez_all T).1 (ez_all T).2 (List.length_replicate.trans hT) hne
    rw [hc, hr]
    rfl
  · rw [if_neg hbig]
    have hc : (Gv.evClose (List.replicate k Gv.ez)).2 = 0 := by
      unfold Gv.evClose
      rw [if_pos hfi, if_neg (by rw [List.length_replicate]; omega)]
    have hr := Gv.there_back _ (ez_all k).1 (ez_all k).2 (by rw [List.length_replicate]; omega)
    rw [hc, hr]
    simp
end Go.Proofs.Ytkjjdphlfbecdaa.Pure
