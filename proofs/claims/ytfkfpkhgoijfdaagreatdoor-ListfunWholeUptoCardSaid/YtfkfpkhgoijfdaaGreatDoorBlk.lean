/- A block of memory known whole: what it holds, carried over calls, new blocks, draws and stores. -/
import Derived.Test.YtfkfpkhgoijfdaaGreatDoorRows
import Derived.WalkKit
import Derived.Handy
import Derived.Deep.Draws
namespace Go.Proofs.YtfkfpkhgoijfdaaGreatDoor
open Go.RowKit
def Blk (w:World) (b:Nat) (cs:Array Value):Prop := ∃ T,w.heap[b]? = some (.cells cs T (0,0))
theorem Blk.lt {w:World} {b:Nat} {cs:Array Value} (h:Blk w b cs):b<w.heap.size:=by
 obtain ⟨T,h⟩:=h
 exact lt_of_block h
theorem Blk.new {w:World} {b:Nat} {cs:Array Value} {T:TypeId} (h:b=w.heap.size):Blk (w.alloc (.cells cs T)) b cs:=by
 subst h
 exact ⟨T,by show (w.heap.push _)[w.heap.size]? = _;simp⟩
theorem Blk.alloc {w:World} {b:Nat} {cs:Array Value} (h:Blk w b cs) (o:Obj):Blk (w.alloc o) b cs:=by
 have hl:=h.lt
 obtain ⟨T,h⟩:=h
 exact ⟨T,(Below.heap_alloc w o b hl).trans h⟩
theorem Blk.drew {w:World} {b:Nat} {cs:Array Value} (h:Blk w b cs):Blk w.drew b cs:=h
theorem Blk.drewN {w:World} {b:Nat} {cs:Array Value} (h:Blk w b cs) (n:Nat):Blk (w.drewN n) b cs:=h
theorem Blk.other {w:World} {b:Nat} {cs:Array Value} {a:Addr} (h:Blk w b cs) (v:Value) (hne:b≠a.block):Blk (w.setCell a v) b cs:=by
 obtain ⟨T,h⟩:=h
 exact ⟨T,(Below.heap_setCell w a v b hne).trans h⟩
theorem Blk.set {w:World} {b i:Nat} {cs:Array Value} (h:Blk w b cs) (v:Value):Blk (w.setCell ⟨b,i,none⟩ v) b (cs.setIfInBounds i v):=by
 have hl:=h.lt
 obtain ⟨T,h⟩:=h
 refine ⟨T,?_⟩
 have h':w.heap[b]=.cells cs T (0,0):=by simpa [Array.getElem?_eq_getElem hl] using h
 show (w.heap.modify b _)[b]? = _
 rw[Array.getElem?_eq_getElem (by simpa using hl),Array.getElem_modify_self,h']
 rfl
theorem Blk.below {w w':World} {b:Nat} {cs:Array Value} (h:Blk w b cs) (hb:Below w.heap.size w w'):Blk w' b cs:=by
 have hl:=h.lt
 obtain ⟨T,h⟩:=h
 exact ⟨T,(hb.block b hl).trans h⟩
theorem Blk.cell {w:World} {b i:Nat} {cs:Array Value} (h:Blk w b cs) {v:Value} (hv:cs[i]? = some v):w.cell? ⟨b,i,none⟩=some v:=by
 obtain ⟨T,h⟩:=h
 simp[World.cell?,h,hv]
theorem Blk.free {w:World} {b:Nat} {cs:Array Value} (h:Blk w b cs) (i:Nat):w.frozen? ⟨b,i,none⟩=false:=by
 obtain ⟨T,h⟩:=h
 simp[World.frozen?,h]
theorem Blk.size {w:World} {b:Nat} {cs:Array Value} (h:Blk w b cs):b<w.heap.size∧b≤w.heap.size∧b<w.heap.size+1∧b<w.heap.size+1+1∧b<w.heap.size+1+1+1:=by
 have:=h.lt;omega
theorem Cx {w:World} {b:Nat} {x0 x1:Value} (h:Blk w b #[x0,x1]):w.cell? ⟨b,0,none⟩=some x0∧w.cell? ⟨b,1,none⟩=some x1∧(∀ i,w.frozen? ⟨b,i,none⟩=false)∧b<w.heap.size∧b≤w.heap.size∧b<w.heap.size+1∧b<w.heap.size+1+1∧b<w.heap.size+1+1+1 :=
 ⟨h.cell rfl,h.cell rfl,h.free,h.size⟩
theorem Blk.set2_0 {w:World} {b:Nat} {x0 x1:Value} (h:Blk w b #[x0,x1]) (v:Value):Blk (w.setCell ⟨b,0,none⟩ v) b #[v,x1]:=h.set v
theorem Blk.set2_1 {w:World} {b:Nat} {x0 x1:Value} (h:Blk w b #[x0,x1]) (v:Value):Blk (w.setCell ⟨b,1,none⟩ v) b #[x0,v]:=h.set v
theorem b2i {w:World} {b:Nat} {x0 x1 x2 x3:Value} (h:Blk w b #[x0,x1,x2,x3]):w.cell? ⟨b,0,none⟩=some x0∧w.cell? ⟨b,1,none⟩=some x1∧w.cell? ⟨b,2,none⟩=some x2∧w.cell? ⟨b,3,none⟩=some x3∧(∀ i,w.frozen? ⟨b,i,none⟩=false)∧b<w.heap.size∧b≤w.heap.size∧b<w.heap.size+1∧b<w.heap.size+1+1∧b<w.heap.size+1+1+1 :=
 ⟨h.cell rfl,h.cell rfl,h.cell rfl,h.cell rfl,h.free,h.size⟩
theorem b6p {w:World} {b:Nat} {x0 x1 x2 x3:Value} (h:Blk w b #[x0,x1,x2,x3]):w.cell? ⟨b,0,none⟩=some x0∧w.cell? ⟨b,1,none⟩=some x1∧w.cell? ⟨b,2,none⟩=some x2∧w.cell? ⟨b,3,none⟩=some x3:=⟨h.cell rfl,h.cell rfl,h.cell rfl,h.cell rfl⟩
theorem Blk.set4_0 {w:World} {b:Nat} {x0 x1 x2 x3:Value} (h:Blk w b #[x0,x1,x2,x3]) (v:Value):Blk (w.setCell ⟨b,0,none⟩ v) b #[v,x1,x2,x3]:=h.set v
theorem Blk.set4_1 {w:World} {b:Nat} {x0 x1 x2 x3:Value} (h:Blk w b #[x0,x1,x2,x3]) (v:Value):Blk (w.setCell ⟨b,1,none⟩ v) b #[x0,v,x2,x3]:=h.set v
theorem Blk.set4_2 {w:World} {b:Nat} {x0 x1 x2 x3:Value} (h:Blk w b #[x0,x1,x2,x3]) (v:Value):Blk (w.setCell ⟨b,2,none⟩ v) b #[x0,x1,v,x3]:=h.set v
theorem Blk.set4_3 {w:World} {b:Nat} {x0 x1 x2 x3:Value} (h:Blk w b #[x0,x1,x2,x3]) (v:Value):Blk (w.setCell ⟨b,3,none⟩ v) b #[x0,x1,x2,v]:=h.set v
end Go.Proofs.YtfkfpkhgoijfdaaGreatDoor
