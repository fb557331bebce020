/-
  Rows of puts. By an AI agent.
-/
import Derived.Test.YtkgieciamophkaaDoorLem01
namespace Go.Proofs.YtkgieciamophkaaDoor
open Go.RowKit

/-- the three cells of one put -/
structure PutAt (w : World) (b o : Nat) (k : Int) (n : Int) (l : List UInt8) (A : Option Addr) (c : Nat) : Prop where
  kind : w.cell? ⟨b, o, none⟩ = some (.int .i64 k)
  num : w.cell? ⟨b, o + 1, none⟩ = some (.int .u32 n)
  row : w.cell? ⟨b, o + 2, none⟩ = some (.slice A l.length c)
  bytes : RB w (fun _ => True) (.slice A l.length c) l
  low : 0 ≤ n
  high : n < 4294967296
  kmin : -9223372036854775808 ≤ k
  kmax : k ≤ 9223372036854775807
  cap : l.length ≤ c
  capn : c ≤ 9223372036854775807
  none : A = none → c = 0

/-- The slice v reads as these puts: the kind, the number, the bytes. -/
def RP (w : World) (v : Value) (ps : List (Int × Int × List UInt8)) : Prop :=
  ps.length ≤ 9223372036854775807 ∧ ∃ A c, v = .slice A ps.length c ∧ ps.length ≤ c ∧
    ∀ i (h : i < ps.length), ∃ b off A' c', A = some ⟨b, off, none⟩ ∧ PutAt w b (off + i * 3) ps[i].1 ps[i].2.1 ps[i].2.2 A' c'
theorem PutAt.keep {w w' : World} {b o c : Nat} {k n : Int} {l : List UInt8} {A : Option Addr} (h : PutAt w b o k n l A c) (hx : Ex (fun _ => False) w w') : PutAt w' b o k n l A c :=
  ⟨hx.cell h.kind id, hx.cell h.num id, hx.cell h.row id, h.bytes.keep hx (fun _ _ _ => id), h.low, h.high, h.kmin, h.kmax, h.cap, h.capn, h.none⟩
theorem PutAt.lt {w : World} {b o c : Nat} {k n : Int} {l : List UInt8} {A : Option Addr} (h : PutAt w b o k n l A c) : b < w.heap.size := World.block_lt_of_cell? w _ h.kind
theorem txt_m1 (n : Int) : txt (n % 256) 1 = txt n 1 := by simp [txt, by8_mod]
theorem txt_m2 (n : Int) : txt (n % 65536) 2 = txt n 2 := by
  have h : ∀ (x y : Int), x % 256 = y % 256 → by8 x = by8 y := fun x y h => by rw [← by8_mod, h, by8_mod]
  simp only [txt, List.nil_append]
  rw [h (n % 65536 / 256) (n / 256) (by omega), h (n % 65536) n (by omega)]
theorem RP.keep {w w' : World} {v : Value} {ps : List (Int × Int × List UInt8)} (h : RP w v ps) (hx : Ex (fun _ => False) w w') : RP w' v ps := by
  obtain ⟨h1, A, c, h2, h3, h4⟩ := h
  refine ⟨h1, A, c, h2, h3, fun i hi => ?_⟩
  obtain ⟨b, off, A', c', e, hp⟩ := h4 i hi
  exact ⟨b, off, A', c', e, hp.keep hx⟩
end Go.Proofs.YtkgieciamophkaaDoor
