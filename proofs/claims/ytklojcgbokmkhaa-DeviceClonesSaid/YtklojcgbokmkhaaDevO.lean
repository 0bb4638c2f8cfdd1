/- Chapter 3: a device in a law. -/
import Derived.Test.YtklojcgbokmkhaaDevN
namespace Go.Proofs.Ytklojcgbokmkhaa
set_option linter.unusedVariables false
set_option linter.unusedSimpArgs false
set_option linter.unusedSectionVars false
open Go.RowKit
open Go.Maps (Keyed)
attribute [local go_sem ↓] Go.wp_at_zero Go.wp_at_succ
/-- A device made behind w0; the blocks 'out' are none of its own. -/
def Live (w0 : World) (x : Nat) (D : Dev) (out : Nat → Prop) (ws : World) : Prop :=
  ∃ q : DevP, q.x = x ∧ DevM ws q D ∧ Grew w0 ws ∧ (∀ k, q.feet k → w0.heap.size ≤ k) ∧ (∀ k, out k → k < ws.heap.size ∧ ¬ q.feet k)
/-- What a call on a device of a law turns. -/
abbrev Beside (w0 : World) (out : Nat → Prop) (ws ws' : World) : Prop := Turned (fun k => w0.heap.size ≤ k ∧ ¬ out k) ws ws'
theorem Live.did {w0 ws : World} {x : Nat} {D D' : Dev} {out : Nat → Prop} {f : Nat} {args : Array Value} {E : Ending → Prop} (h : Live w0 x D out ws) (hc : ∀ q : DevP, q.x = x → DevM ws q D → Calls Try.prog f args ws fun e w' => E e ∧ Did ws w' q D') :
    Calls Try.prog f args ws fun e w' => E e ∧ Live w0 x D' out w' ∧ Beside w0 out ws w' := by
  obtain ⟨q, hx, hd, hg, hf, ho⟩ := h
  refine (hc q hx hd).mono ?_
  rintro e w' ⟨he, q', hd', hf', ht'⟩
  refine ⟨he, ⟨q', hf'.x.trans hx, hd', hg.turn ht' hf, fun k hk => (hf'.feet k hk).elim (hf k) (fun h => Nat.le_trans hg.size h), fun k hk => ⟨Nat.lt_of_lt_of_le (ho k hk).1 ht'.size, fun h => (hf'.feet k h).elim (ho k hk).2 (fun h9 => absurd (ho k hk).1 (by omega))⟩⟩, ht'.mono (fun k _ hk => ⟨hf k hk, fun h => (ho k h).2 hk⟩)⟩
theorem Live.look {w0 ws : World} {x : Nat} {D : Dev} {out : Nat → Prop} {f : Nat} {args : Array Value} {E : Ending → Prop} (h : Live w0 x D out ws) (hc : ∀ q : DevP, q.x = x → DevM ws q D → Calls Try.prog f args ws fun e w' => E e ∧ ws = w') :
    Calls Try.prog f args ws fun e w' => E e ∧ ws = w' := by
  obtain ⟨q, hx, hd, _⟩ := h
  exact hc q hx hd
theorem Live.grew {w0 ws ws' : World} {x : Nat} {D : Dev} {out : Nat → Prop} (h : Live w0 x D out ws) (hg : Grew ws ws') : Live w0 x D out ws' := by
  obtain ⟨q, hx, hd, hg0, hf, ho⟩ := h
  exact ⟨q, hx, hd.grew hg, hg0.trans hg, hf, fun k hk => ⟨Nat.lt_of_lt_of_le (ho k hk).1 hg.size, (ho k hk).2⟩⟩
/-- A block that is new is none of the device's. -/
theorem Live.more {w0 ws ws' : World} {x : Nat} {D : Dev} {out : Nat → Prop} (h : Live w0 x D out ws) (hg : Grew ws ws') : Live w0 x D (fun k => out k ∨ (ws.heap.size ≤ k ∧ k < ws'.heap.size)) ws' := by
  obtain ⟨q, hx, hd, hg0, hf, ho⟩ := h
  refine ⟨q, hx, hd.grew hg, hg0.trans hg, hf, fun k hk => ?_⟩
  rcases hk with hk | hk
  · exact ⟨Nat.lt_of_lt_of_le (ho k hk).1 hg.size, (ho k hk).2⟩
  · exact ⟨hk.2, fun h => absurd (hd.feet_lt k h) (by omega)⟩
/-- What is outside may turn. -/
theorem Live.turn {w0 ws ws' : World} {x : Nat} {D : Dev} {out : Nat → Prop} (h : Live w0 x D out ws) (ht : Turned out ws ws') (ho : ∀ k, out k → w0.heap.size ≤ k) : Live w0 x D out ws' := by
  obtain ⟨q, hx, hd, hg0, hf, hn⟩ := h
  exact ⟨q, hx, hd.kept ht (fun k hk h => (hn k h).2 hk), hg0.turn ht ho, hf, fun k hk => ⟨Nat.lt_of_lt_of_le (hn k hk).1 ht.size, (hn k hk).2⟩⟩
theorem Live.base {w0 ws : World} {x : Nat} {D : Dev} {out : Nat → Prop} (h : Live w0 x D out ws) : Grew w0 ws := by obtain ⟨_, _, _, h, _⟩ := h; exact h
theorem Live.ok {w0 ws : World} {x : Nat} {D : Dev} {out : Nat → Prop} (h : Live w0 x D out ws) : D.Ok := by obtain ⟨_, _, h, _⟩ := h; exact h.ok
theorem Live.few {w0 ws : World} {x : Nat} {D : Dev} {out out' : Nat → Prop} (h : Live w0 x D out ws) (ho : ∀ k, out' k → out k) : Live w0 x D out' ws := by
  obtain ⟨q, hx, hd, hg0, hf, hn⟩ := h
  exact ⟨q, hx, hd, hg0, hf, fun k hk => hn k (ho k hk)⟩
theorem new_live (n : Nat) (w : World) (h1 : 1 ≤ n) (h2 : n ≤ 1155) : Calls Try.prog 11 #[.int .i64 (n : Int)] w fun e w' => ∃ x, e = .returned (.tuple #[.pointer (some ⟨x, 0, none⟩), .int .i64 0]) ∧ Live w x (newD n) (fun _ => False) w' := by
  refine (new_any n w h1 h2).mono ?_
  rintro e w' ⟨x, q, rfl, hx, hd, hg, hf⟩
  exact ⟨x, rfl, q, hx, hd, hg, hf, fun k hk => hk.elim⟩
section
variable {w0 ws : World} {x : Nat} {D : Dev} {out : Nat → Prop} (h : Live w0 x D out ws)
include h
theorem write_live (s e sec : Int) (data : ByteArray) (hsmall : D.pend.length ≤ 999999) (hsz : data.size ≤ 9223372036854775807) :
    Calls Try.prog 16 #[.pointer (some ⟨x, 0, none⟩), .agg #[.int .i64 s, .int .i64 e], .int .i64 sec, .string data] ws fun er w' => er = .returned (.int .i64 (writeD D s e sec data).2) ∧ Live w0 x (writeD D s e sec data).1 out w' ∧ Beside w0 out ws w' :=
  h.did (fun q hx hd => by rw [← hx]; exact write_any hd s e sec data hsmall hsz)
theorem sync_live (s e : Int) (hsmall : D.pend.length ≤ 1000000) :
    Calls Try.prog 17 #[.pointer (some ⟨x, 0, none⟩), .agg #[.int .i64 s, .int .i64 e]] ws fun er w' => er = .returned (.int .i64 (syncD D s e).2) ∧ Live w0 x (syncD D s e).1 out w' ∧ Beside w0 out ws w' :=
  h.did (fun q hx hd => by rw [← hx]; exact sync_any hd s e hsmall)
theorem fence_live (s e : Int) (hs : okI s) (he : okI e) :
    Calls Try.prog 24 #[.pointer (some ⟨x, 0, none⟩), .int .i64 s, .int .i64 e] ws fun er w' => er = .returned (.tuple #[]) ∧ Live w0 x (fenceD D s e) out w' ∧ Beside w0 out ws w' :=
  h.did (fun q hx hd => by rw [← hx]; exact fence_any hd s e hs he)
theorem repair_live : Calls Try.prog 43 #[.pointer (some ⟨x, 0, none⟩)] ws fun er w' => er = .returned (.tuple #[]) ∧ Live w0 x (repairD D) out w' ∧ Beside w0 out ws w' :=
  h.did (fun q hx hd => by rw [← hx]; exact repair_any hd)
theorem return_live (sec back : Int) (hs : okI sec) (hb : okI back) :
    Calls Try.prog 22 #[.pointer (some ⟨x, 0, none⟩), .int .i64 sec, .int .i64 back] ws fun er w' => er = .returned (.int .i64 (returnD D sec back).2) ∧ Live w0 x (returnD D sec back).1 out w' ∧ Beside w0 out ws w' :=
  h.did (fun q hx hd => by rw [← hx]; exact return_any hd sec back hs hb)
theorem damage_live (sec i : Int) (m : UInt8) (hs : okI sec) (hi : okI i) :
    Calls Try.prog 44 #[.pointer (some ⟨x, 0, none⟩), .int .i64 sec, .int .i64 i, .int .u8 (m.toNat : Int)] ws fun er w' => er = .returned (.int .i64 (damageD D sec i m).2) ∧ Live w0 x (damageD D sec i m).1 out w' ∧ Beside w0 out ws w' :=
  h.did (fun q hx hd => by rw [← hx]; exact damage_any hd sec i m hs hi)
/-- The list lies outside the device. -/
def Aside (w0 : World) (out : Nat → Prop) (A : Option Addr) (n : Nat) : Prop := 0 < n → ∀ b off, A = some ⟨b, off, none⟩ → b < w0.heap.size ∨ out b
theorem crash_live (s : Int) (A2 : Option Addr) (c2 : Nat) (l : List Int) (hl : ListAt ws ws.heap.size 1 A2 (l.map intC)) (hA : Aside w0 out A2 l.length) (hlen : l.length ≤ 9223372036854775807) (hlok : ∀ n ∈ l, okI n) (hsmall : D.pend.length ≤ 1000000) :
    Calls Try.prog 18 #[.pointer (some ⟨x, 0, none⟩), .int .i64 s, .slice A2 l.length c2] ws fun er w' => er = .returned (.tuple #[]) ∧ Live w0 x (crashD D s l) out w' ∧ Beside w0 out ws w' := by
  obtain ⟨q, hx, hd, hg, hf, ho⟩ := h
  have hns : 0 < l.length → ∀ b off, A2 = some ⟨b, off, none⟩ → ¬ q.turns b := fun hp b off e hb => by
    rcases hA hp b off e with h9 | h9
    · exact absurd (hf b (DevP.turns_feet q b hb)) (by omega)
    · exact (ho b h9).2 (DevP.turns_feet q b hb)
  have hc := crash_any hd s A2 c2 l hl hns hlen hlok hsmall
  rw [hx] at hc
  refine hc.mono ?_
  rintro e w' ⟨he, q', hd', hf', ht'⟩
  exact ⟨he, ⟨q', hf'.x.trans hx, hd', hg.turn ht' hf, fun k hk => (hf'.feet k hk).elim (hf k) (fun h => Nat.le_trans hg.size h), fun k hk => ⟨Nat.lt_of_lt_of_le (ho k hk).1 ht'.size, fun h => (hf'.feet k h).elim (ho k hk).2 (fun h9 => absurd (ho k hk).1 (by omega))⟩⟩, ht'.mono (fun k _ hk => ⟨hf k hk, fun h => (ho k h).2 hk⟩)⟩
theorem fail_live (n : Int) (hn : okI n) (A2 : Option Addr) (c2 : Nat) (l : List Int) (hl : ListAt ws ws.heap.size 1 A2 (l.map intC)) (hlen : l.length ≤ 1000000) (hlok : ∀ n ∈ l, okI n) :
    Calls Try.prog 42 #[.pointer (some ⟨x, 0, none⟩), .int .i64 n, .slice A2 l.length c2] ws fun er w' => er = .returned (.tuple #[]) ∧ Live w0 x (failD D n l) out w' ∧ Beside w0 out ws w' :=
  h.did (fun q hx hd => by rw [← hx]; exact fail_any hd n hn A2 c2 l hl hlen hlok)
theorem read_live (i : Int) (s : ByteArray) (er : Int) (hr : readD D i = (s, er)) : Calls Try.prog 19 #[.pointer (some ⟨x, 0, none⟩), .int .i64 i] ws fun e w' => e = .returned (.tuple #[.string s, .int .i64 er]) ∧ ws = w' :=
  h.look (fun q hx hd => by rw [← hx]; exact read_any hd i s er hr)
theorem old_live (i : Int) : Calls Try.prog 21 #[.pointer (some ⟨x, 0, none⟩), .int .i64 i] ws fun e w' => e = .returned (.int .i64 (earlierD D i : Int)) ∧ ws = w' :=
  h.look (fun q hx hd => by rw [← hx]; exact old_any hd i)
theorem sectors_live : Calls Try.prog 29 #[.pointer (some ⟨x, 0, none⟩)] ws fun e w' => e = .returned (.int .i64 (D.st.length : Int)) ∧ ws = w' :=
  h.look (fun q hx hd => by rw [← hx]; exact sectors_any hd)
theorem failed_live : Calls Try.prog 30 #[.pointer (some ⟨x, 0, none⟩)] ws fun e w' => e = .returned (.bool D.failed) ∧ ws = w' :=
  h.look (fun q hx hd => by rw [← hx]; exact failed_any hd)
theorem pending_live (s : Int) (hp : D.pend.length ≤ 1000000) : Calls Try.prog 20 #[.pointer (some ⟨x, 0, none⟩), .int .i64 s] ws fun e w' => e = .returned (.int .i64 (waitD D s : Int)) ∧ Grew ws w' := by
  obtain ⟨q, hx, hd, _⟩ := h
  rw [← hx]
  exact pending_any hd s hp
end
end Go.Proofs.Ytklojcgbokmkhaa
