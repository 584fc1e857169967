/- Contracts of the document's map. -/
import Derived.Test.YtpmnnijjohlloaaRemapV
import Derived.Test.YtpmnnijjohlloaaPxG
import Derived.Test.YtpmnnijjohlloaaPxZ
namespace Go.Proofs.Ytpmnnijjohlloaa
open Go Go.RowKit
set_option linter.unusedVariables false
set_option linter.unusedSimpArgs false
set_option maxRecDepth 100000 in
set_option maxHeartbeats 4000000 in
theorem New19 {r s b o c y z : Int} {pg sn ns : Nat} (hL : Lay r s b o c y z pg sn ns) (w0 : World) :
    Calls Try.prog 24 #[.agg #[.int .i64 r, .int .i64 s, .int .i64 b, .int .i64 o, .int .i64 c], .int .i64 y, .int .i64 z] w0 fun e w' => ∃ u cu, e = .returned (.agg #[.int .i64 r, .int .i64 s, .int .i64 b, .int .i64 o, .int .i64 c, .int .i64 y, .int .i64 z, .slice (some ⟨u, 0, none⟩) pg cu, .slice none 0 0, .slice none 0 0, .int .i64 ((0 : Nat) : Int), .int .i64 ((0 : Nat) : Int)]) ∧ Hs [] w0 w' [.row (.slice (some ⟨u, 0, none⟩) pg cu) 3 1 pg (List.map (Value.int .i64) (layL y r b o pg))] := by
  refine z_enter Try.func24 rfl ?_
  have H := Hs.nil w0
  refine x_seq <| x_region <| z_box H #[.int .i64 r, .int .i64 s, .int .i64 b, .int .i64 o, .int .i64 c] 38 (fun v1 g1 H => ?_)
  refine z_box H #[.int .i64 0, .int .i64 0, .int .i64 0, .int .i64 0, .int .i64 0, .int .i64 0, .int .i64 0, .slice none 0 0, .slice none 0 0, .slice none 0 0, .int .i64 0, .int .i64 0] 43 (fun v2 g2 H => ?_)
  refine x_nil <| x_then <| x_seq <| z_region_s H 8 [1] <| s_b [(0, .n 0 0 5 38), (1, .m), (2, .m), (3, .n 0 0 5 38), (4, .m)] 3 <| s_one 5 rfl (by kernel_rfl) rfl ?_
  clear H
  intro v3 H
  refine z_call (Layout8 hL _) ?_
  rintro _ v4 ⟨u, cu, rfl, hN'⟩
  refine ⟨_, rfl, ?_⟩
  replace H := H.more hN'
  clear hN'
  refine x_nil <| x_then <| z_next H [0, 2] [1] rfl <| s_b [(6, .m)] 1 <| s_one 7 rfl (by kernel_rfl) rfl ?_
  clear H
  intro v5 H
  refine z_store H 1 0 [.int .i64 r, .int .i64 s, .int .i64 b, .int .i64 o, .int .i64 c, .int .i64 y, .int .i64 z, .slice (some ⟨u, 0, none⟩) pg cu, .slice none 0 0, .slice none 0 0, .int .i64 0, .int .i64 0] (fun v6 H => ?_)
  refine x_nil <| x_then <| z_next H [0, 1, 2] [0, 2] rfl <| s_done (by kernel_rfl) ?_
  clear H
  intro v7 H
  refine x_then <| x_retc <| x_ret (.agg #[.int .i64 r, .int .i64 s, .int .i64 b, .int .i64 o, .int .i64 c, .int .i64 y, .int .i64 z, .slice (some ⟨u, 0, none⟩) pg cu, .slice none 0 0, .slice none 0 0, .int .i64 0, .int .i64 0]) (by kernel_rfl) (x_results [.cell 6 43] [.agg #[.int .i64 r, .int .i64 s, .int .i64 b, .int .i64 o, .int .i64 c, .int .i64 y, .int .i64 z, .slice (some ⟨u, 0, none⟩) pg cu, .slice none 0 0, .slice none 0 0, .int .i64 0, .int .i64 0]] _ rfl (AllR.cell (by kernel_rfl) (ldR H 1 g2 0 #[.int .i64 r, .int .i64 s, .int .i64 b, .int .i64 o, .int .i64 c, .int .i64 y, .int .i64 z, .slice (some ⟨u, 0, none⟩) pg cu, .slice none 0 0, .slice none 0 0, .int .i64 0, .int .i64 0] 43 [.int .i64 r, .int .i64 s, .int .i64 b, .int .i64 o, .int .i64 c, .int .i64 y, .int .i64 z, .slice (some ⟨u, 0, none⟩) pg cu, .slice none 0 0, .slice none 0 0, .int .i64 0, .int .i64 0] (by kernel_rfl) (by kernel_rfl) (by kernel_rfl)) AllR.nil) (by kernel_rfl)) ?_
  exact ⟨u, cu, rfl, H.pick [0] _ (by decide) (by kernel_rfl)⟩
end Go.Proofs.Ytpmnnijjohlloaa
