/- The law AcceptDrops as a statement over bytes and a sign: bytes that don't begin with MSH have no answer; conditions: bytes. -/
import Derived.Test.YtmjdnkiohdkfpaaDoorPFx30
import Derived.Test.YtmjdnkiohdkfpaaDoorAlive11
namespace Go.Proofs.YtmjdnkiohdkfpaaDoor.Pure
open Go Go.RowKit Go.Proofs.YtmjdnkiohdkfpaaDoor.PF Go.Proofs.YtmjdnkiohdkfpaaDoorW.PrintWords Go.Proofs.YtmjdnkiohdkfpaaDoorW.PrintLast
theorem drops_tail (k : Nat) (hk : 200 < k) {b : List Int} (hb : ∀ x ∈ b, IsByte x) (hl : b.length ≤ 2000) (kept : Bool) (hn : ¬ (9 ≤ b.length ∧ Lib.bytesOf (b.take 3) = [77, 83, 72])) : dropsTail k b kept = some true := by
  obtain ⟨e, he, hr⟩ : ∃ e : Int, (e = 7 ∨ e = 11) ∧ readM b = (0, 0, 0, 0, 0, strOf [], strOf [], strOf [], strOf [], strOf [], strOf [], strOf [], strOf [], strOf [], strOf [], e) := by
    by_cases h9 : (b.length : Int) < 9
    · have hs : readS b = (0, 0, 0, 0, 0, 7) := by
        unfold readS
        rw [if_pos h9]
      refine ⟨7, .inl rfl, ?_⟩
      unfold readM
      rw [hs]
      dsimp only
      rw [if_neg (by decide)]
    · have hs : readS b = (0, 0, 0, 0, 0, 11) := by
        unfold readS
        rw [if_neg h9, if_neg (fun q => hn ⟨by omega, q.1⟩)]
      refine ⟨11, .inr rfl, ?_⟩
      unfold readM
      rw [hs]
      dsimp only
      rw [if_neg (by decide)]
  have hne : e ≠ 0 := by rcases he with rfl | rfl <;> decide
  have hv := Verdict_bad k (by omega) hb (by omega) hne hr
  have hrep : accept_Reply.f k b kept = some ([], false) := by
    unfold accept_Reply.f
    rw [hv, Option.bind_some]
    dsimp only
    rw [if_pos nil_list, j0_bad k (by omega)]
  have hst : accept_Stored.f k b = some false := by
    unfold accept_Stored.f
    rw [hv, Option.bind_some]
    dsimp only
    rw [nil_list]
    rfl
  unfold dropsTail
  rw [alive11_is k (by omega), Option.bind_some, hv, Option.bind_some, hrep, Option.bind_some, hst, Option.bind_some]
  rw [if_pos ⟨rfl, rfl, rfl, by rcases he with rfl | rfl; exact .inl rfl; exact .inr rfl⟩]
theorem AcceptDrops (l : List Int) (kept : Bool) (hb : ∀ x ∈ l, IsByte x) : ∃ k, lamplighterlaw11_AcceptDrops.f k l kept = some true := by
  refine ⟨1000, ?_⟩
  unfold lamplighterlaw11_AcceptDrops.f
  by_cases h2 : l.length ≤ 2000
  · rw [if_pos h2]
    by_cases h3 : 9 ≤ l.length ∧ Lib.bytesOf (l.take 3) = [77, 83, 72]
    · rw [if_pos h3]
      refine drops_tail 1000 (by decide) (fun x hx => hb x (List.mem_of_mem_drop hx)) (by rw [List.length_drop]; omega) kept (fun q => drop_not h3.1 h3.2 q.2)
    · rw [if_neg h3]
      exact drops_tail 1000 (by decide) hb h2 kept h3
  · rw [if_neg h2]
    exact alive11_is 1000 (by decide)
end Go.Proofs.YtmjdnkiohdkfpaaDoor.Pure
