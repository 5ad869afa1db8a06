/- Shorter words for the walks: facts carried along worlds that only grew (rb, cb, kb, bb), rows told apart from new ones (td, nw), new boxes' places (gs, na, nb). -/
import Derived.Test.YtcdkbdkanjifeaaBTab
import Derived.Test.YtcdkbdkanjifeaaBLast
import Derived.Test.YtcdkbdkanjifeaaBMore
namespace Go.Proofs.Ytcdkbdkanjifeaa.Steps3
open Go Go.RowKit Go.Proofs.YtcdkbdkanjifeaaW.PrintWords Go.Proofs.YtcdkbdkanjifeaaW.PrintLast Go.Proofs.YtcdkbdkanjifeaaW.PrintMore
class BW (w W:World):Prop where
  out:Below w.heap.size w W
instance bw0 (w:World):BW w w:=⟨Below.refl _ _⟩
instance bw1 (w W:World) [h:BW w W] (o:Obj):BW w (W.alloc o):=⟨below_alloc h.out o⟩
instance bw2 (w W:World) [h:BW w W] (n:Nat):BW w (W.drewN n):=⟨pw_below_drewN h.out n⟩
instance bw3 (w W:World) [h:BW w W]:BW w W.drew:=⟨below_drew1 h.out⟩
abbrev ob (k:Nat) (v:Value):Prop:=some k≠v.ownBlock
variable {α β γ δ ε : Type} {d : Kd α} {d0 : Kd β} {d1 : Kd γ} {d2 : Kd δ} {d3 : Kd ε} {e e0 e1 e2 e3 : TypeId} {w w1 W : World} {base b0 : Nat} {ok o0 o1 o2 o3 : Nat → Prop} {u v v0 v1 v2 v3 : Value} {xs : List α} {x0 : List β} {x1 : List γ} {x2 : List δ} {x3 : List ε} {g a b n : Nat} {o : Obj}
theorem rb [h' :BW w w1] (h:d.R e w base ok v xs):d.R e w1 base ok v xs:=Kd.R_below h h'.out
theorem cb [h' :BW w w1] {A:Option Addr} (h:d.C w A n xs):d.C w1 A n xs:=Kd.C_below h h'.out
theorem kb [h' :BW w w1] (h:w.heap[g]? =some o):w1.heap[g]? =some o:=blk_below h h'.out
theorem bk {j:Nat} (h:Below w.heap.size w W) (hg:Aside0 (w.heap.size≤g):=by assumption):Below w.heap.size w (W.setCell ⟨g,j,none⟩ v):=below_set h hg.out
theorem nw (h:d.R e w1 W.heap.size ok v xs) (hu:d0.R e0 W b0 o0 u x0):d.R e w1 W.heap.size (fun k=>ok k∧some k≠u.ownBlock) v xs:=Kd.R_new' h (Kd.R_lt hu)
theorem td1 (hu:d.R e W base ok u xs) (hb:Below W.heap.size W w1) (h0:d0.R e0 w1 W.heap.size o0 v0 x0):d.R e w1 base (fun k=>ok k∧some k≠v0.ownBlock) u xs:=Kd.R_mono (Kd.R_told (Kd.R_old hu hb) (Kd.R_base h0)) (fun _ h_=>h_.1)
theorem td2 (hu:d.R e W base ok u xs) (hb:Below W.heap.size W w1) (h0:d0.R e0 w1 W.heap.size o0 v0 x0) (h1:d1.R e1 w1 W.heap.size o1 v1 x1):d.R e w1 base (fun k=>(ok k∧some k≠v0.ownBlock)∧some k≠v1.ownBlock) u xs:=Kd.R_mono (Kd.R_told (Kd.R_told (Kd.R_old hu hb) (Kd.R_base h0)) (Kd.R_base h1)) (fun _ h_=>h_.1)
theorem td3 (hu:d.R e W base ok u xs) (hb:Below W.heap.size W w1) (h0:d0.R e0 w1 W.heap.size o0 v0 x0) (h1:d1.R e1 w1 W.heap.size o1 v1 x1) (h2:d2.R e2 w1 W.heap.size o2 v2 x2):d.R e w1 base (fun k=>((ok k∧some k≠v0.ownBlock)∧some k≠v1.ownBlock)∧some k≠v2.ownBlock) u xs:=Kd.R_mono (Kd.R_told (Kd.R_told (Kd.R_told (Kd.R_old hu hb) (Kd.R_base h0)) (Kd.R_base h1)) (Kd.R_base h2)) (fun _ h_=>h_.1)
theorem td4 (hu:d.R e W base ok u xs) (hb:Below W.heap.size W w1) (h0:d0.R e0 w1 W.heap.size o0 v0 x0) (h1:d1.R e1 w1 W.heap.size o1 v1 x1) (h2:d2.R e2 w1 W.heap.size o2 v2 x2) (h3:d3.R e3 w1 W.heap.size o3 v3 x3):d.R e w1 base (fun k=>(((ok k∧some k≠v0.ownBlock)∧some k≠v1.ownBlock)∧some k≠v2.ownBlock)∧some k≠v3.ownBlock) u xs:=Kd.R_mono (Kd.R_told (Kd.R_told (Kd.R_told (Kd.R_told (Kd.R_old hu hb) (Kd.R_base h0)) (Kd.R_base h1)) (Kd.R_base h2)) (Kd.R_base h3)) (fun _ h_=>h_.1)
theorem gs (hg:g=n) (h:a≤n):a≤g:=hg ▸ h
theorem na (hg:b=W.heap.size) (h:W.heap[a]? =some o):a≠b:=by rw [hg];exact Nat.ne_of_lt (blk_lt h)
theorem nb (hg:b=W.heap.size) (h:W.heap[a]? =some o):b≠a:=by rw [hg];exact Nat.ne_of_gt (blk_lt h)
end Go.Proofs.Ytcdkbdkanjifeaa.Steps3
