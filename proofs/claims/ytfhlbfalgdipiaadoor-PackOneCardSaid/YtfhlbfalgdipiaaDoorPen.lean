/- Pens and eyes as items of their own: their contracts where they stand. -/
import Derived.Test.YtfhlbfalgdipiaaDoorDigit
set_option linter.unusedVariables false
set_option linter.unusedSimpArgs false
namespace Go.Proofs.K
open Go.Sl

/-- a pen that has laid these bytes -/
def PenI (b : Nat) (l : List UInt8) : HItem := Ex fun v : Value => Sl.Sep [Blk b (.cells #[v] t_digit_Pen), OwnB v l]
/-- an eye: its fault, what is left -/
def EyeI (b : Nat) (st : Int × List UInt8) : HItem := Ex fun v : Value => Sl.Sep [Blk b (.cells #[v, .int .i64 st.1] t_digit_Eye), OwnB v st.2]
theorem PenI_open {s w : World} {b : Nat} {l : List UInt8} {F : List HItem} (h : Sat s w (PenI b l :: F)) : ∃ v, Sat s w (Blk b (.cells #[v] t_digit_Pen) :: OwnB v l :: F) := by
  obtain ⟨v, h⟩ := h.unex
  exact ⟨v, h.unsep⟩
theorem PenI_shut {s w : World} {b : Nat} {l : List UInt8} {F : List HItem} {v : Value} (h : Sat s w (Blk b (.cells #[v] t_digit_Pen) :: OwnB v l :: F)) : Sat s w (PenI b l :: F) :=
  Sat.ex v (Sat.sep (M := [Blk b (.cells #[v] t_digit_Pen), OwnB v l]) h)
theorem EyeI_open {s w : World} {b : Nat} {st : Int × List UInt8} {F : List HItem} (h : Sat s w (EyeI b st :: F)) : ∃ v, Sat s w (Blk b (.cells #[v, .int .i64 st.1] t_digit_Eye) :: OwnB v st.2 :: F) := by
  obtain ⟨v, h⟩ := h.unex
  exact ⟨v, h.unsep⟩
theorem EyeI_shut {s w : World} {b : Nat} {st : Int × List UInt8} {F : List HItem} {v : Value} (h : Sat s w (Blk b (.cells #[v, .int .i64 st.1] t_digit_Eye) :: OwnB v st.2 :: F)) : Sat s w (EyeI b st :: F) :=
  Sat.ex v (Sat.sep (M := [Blk b (.cells #[v, .int .i64 st.1] t_digit_Eye), OwnB v st.2]) h)
/-- a pen that was made just now -/
theorem St_toPen {n : Nat} {s w : World} {a : Act} {E : List (Nat × Value)} {b : Nat} {F : List HItem} (h : St n s a w E (Blk b (.cells #[.slice none 0 0] t_digit_Pen) :: F)) : St n s a w E (PenI b [] :: F) :=
  ⟨h.1, PenI_shut (h.addNilb.2.perm (.swap _ _ _))⟩

theorem pen_Num (s w : World) (b : Nat) (l : List UInt8) (m : Nat) (L : List HItem) (i : Nat) (hi : L[i]? = some (PenI b l)) (hm : m ≤ 9223372036854775807) (hl : l.length + 20 ≤ 4294967296) (hs : Sat s w L) :
    Calls P n_digit_Pen_Num #[.pointer (some ⟨b, 0, none⟩), .int .i64 (m : Int)] w (Ret s (fun _ : Unit => .pointer (some ⟨b, 0, none⟩)) (fun _ => L.set i (PenI b (l ++ numN m))) (fun _ => True)) := by
  refine at0 i hi hs fun F hF h => ?_
  obtain ⟨v, h⟩ := PenI_open h
  exact (pen_num s w b 0 #[v] t_digit_Pen v l m F hm rfl hl h).mono fun _ _ ⟨x, he, h', _⟩ => ⟨(), he, PenI_shut (v := x) h', trivial⟩
theorem pen_Raw (s w : World) (b : Nat) (pv : Value) (l p : List UInt8) (L : List HItem) (i : Nat) (hi : L[i]? = some (PenI b l)) (hp : ViewsB (L.eraseIdx i) pv p) (hl : l.length + p.length ≤ 4294967296) (hs : Sat s w L) :
    Calls P n_digit_Pen_Raw #[.pointer (some ⟨b, 0, none⟩), pv] w (Ret s (fun _ : Unit => .pointer (some ⟨b, 0, none⟩)) (fun _ => L.set i (PenI b (l ++ p))) (fun _ => True)) := by
  refine at0 i hi hs fun F hF h => ?_
  rw [← hF] at hp
  obtain ⟨v, h⟩ := PenI_open h
  exact (pen_raw s w b 0 #[v] t_digit_Pen v pv l p F rfl hl hp h).mono fun _ _ ⟨x, he, h', _⟩ => ⟨(), he, PenI_shut (v := x) h', trivial⟩
theorem eye_New (s w : World) (pv : Value) (p : List UInt8) (F : List HItem) (hp : ViewsB F pv p) (hl : p.length ≤ 4294967296) (hs : Sat s w F) :
    Calls P n_digit_NewEye #[pv] w (Ret s (fun b : Nat => .pointer (some ⟨b, 0, none⟩)) (fun b => EyeI b (0, p) :: F) (fun _ => True)) :=
  (new_eye s w pv p F hl hp hs).mono fun _ _ ⟨x, he, h', _⟩ => ⟨x.1, he, EyeI_shut (v := x.2) h', trivial⟩
theorem eye_Num (s w : World) (b : Nat) (st : Int × List UInt8) (most : Int) (L : List HItem) (i : Nat) (hi : L[i]? = some (EyeI b st)) (hm1 : -9223372036854775808 ≤ most) (hm2 : most ≤ 9223372036854775807) (hl : st.2.length ≤ 4294967296) (hs : Sat s w L) :
    Calls P n_digit_Eye_Num #[.pointer (some ⟨b, 0, none⟩), .int .i64 most] w (Ret s (fun _ : Unit => .int .i64 (eyeNum st most).1) (fun _ => L.set i (EyeI b (eyeNum st most).2)) (fun _ => True)) := by
  refine at0 i hi hs fun F hF h => ?_
  obtain ⟨v, h⟩ := EyeI_open h
  exact (eye_num s w b t_digit_Eye v st.2 st.1 most F hm1 hm2 hl h).mono fun _ _ ⟨x, he, h', _⟩ => ⟨(), he, EyeI_shut (v := x) h', trivial⟩
theorem eye_Raw (s w : World) (b : Nat) (st : Int × List UInt8) (m : Int) (L : List HItem) (i : Nat) (hi : L[i]? = some (EyeI b st)) (hl : st.2.length ≤ 4294967296) (hs : Sat s w L) :
    Calls P n_digit_Eye_Raw #[.pointer (some ⟨b, 0, none⟩), .int .i64 m] w (Ret s (fun v : Value => v) (fun v => OwnB v (eyeRaw st m).1 :: L.set i (EyeI b (eyeRaw st m).2)) (fun _ => True)) := by
  refine atN i hi hs fun F hF h => ?_
  obtain ⟨v, h⟩ := EyeI_open h
  exact (eye_raw s w b t_digit_Eye v st.2 st.1 m F hl h).mono fun _ _ ⟨x, he, h', _⟩ => ⟨x.2, he, (EyeI_shut (v := x.1) (F := OwnB x.2 (eyeRaw st m).1 :: F) (h'.perm ((List.Perm.swap _ _ _).trans ((List.Perm.swap _ _ _).cons _)))).perm (.swap _ _ _), trivial⟩
theorem eye_EndI (s w : World) (b : Nat) (st : Int × List UInt8) (L : List HItem) (i : Nat) (hi : L[i]? = some (EyeI b st)) (hs : Sat s w L) :
    Calls P n_digit_Eye_End #[.pointer (some ⟨b, 0, none⟩)] w (Ret s (fun _ : Unit => .int .i64 (eyeEnd st)) (fun _ => L) (fun _ => True)) := by
  refine atS i hi hs fun F hF h => ?_
  obtain ⟨v, h⟩ := EyeI_open h
  exact (eye_End s w b t_digit_Eye v st.2 st.1 F h).mono fun _ _ ⟨x, he, h', _⟩ => ⟨(), he, EyeI_shut (v := v) h', trivial⟩
theorem eye_FaultI (s w : World) (b : Nat) (st : Int × List UInt8) (L : List HItem) (i : Nat) (hi : L[i]? = some (EyeI b st)) (hs : Sat s w L) :
    Calls P n_digit_Eye_Fault #[.pointer (some ⟨b, 0, none⟩)] w (Ret s (fun _ : Unit => .int .i64 st.1) (fun _ => L) (fun _ => True)) := by
  refine atS i hi hs fun F hF h => ?_
  obtain ⟨v, h⟩ := EyeI_open h
  exact (eye_fault s w b t_digit_Eye v st.1 _ h).mono fun _ _ ⟨x, he, h', _⟩ => ⟨(), he, EyeI_shut (v := v) h', trivial⟩
theorem eye_LeftI (s w : World) (b : Nat) (st : Int × List UInt8) (L : List HItem) (i : Nat) (hi : L[i]? = some (EyeI b st)) (hs : Sat s w L) :
    Calls P n_digit_Eye_Left #[.pointer (some ⟨b, 0, none⟩)] w (Ret s (fun _ : Unit => .int .i64 (st.2.length : Int)) (fun _ => L) (fun _ => True)) := by
  refine atS i hi hs fun F hF h => ?_
  obtain ⟨v, h⟩ := EyeI_open h
  exact (eye_left s w b t_digit_Eye v st.2 st.1 _ h).mono fun _ _ ⟨x, he, h', _⟩ => ⟨(), he, EyeI_shut (v := v) h', trivial⟩
end Go.Proofs.K
