/- Steps of the stack and of the slots, as data. -/
import Derived.Test.YtcfbdfgondmkoaaCoD
namespace Go.Proofs.Ytcfbdfgondmkoaa
open Go Go.RowKit

def idx (x : Int) : Int := x / 2 % 1048576
def tagI (x : Int) : Int := x / 2097152 % 1099511627776
/-- where a node's cell of the list stands -/
def linkAt (p : Int) : Int := wrap64 (128 + 4 * (p - 1))
def memS (s : SysD) (m : Arena) : SysD := { s with M := m }
def pcF (f : FrameD) (pc : Int) : FrameD := { f with pc := pc }
def regF (f : FrameD) (j : Nat) (v : Int) : FrameD := { f with R := f.R.set j v }
def onS (s : SysD) (id : Int) (m : Arena) (f : FrameD) (pc : Int) : SysD := setS (memS s m) id (pcF f pc)
def popS (s : SysD) (id : Int) (f : FrameD) : SysD :=
  if f.pc = 0 then
    if idx (loadD s.M 0) = 0 then backS (logD (memS s (touchD s.M 0)) id 9 0 0 0) id 0 2
    else onS s id (touchD s.M 0) (regF f 0 (loadD s.M 0)) 1
  else if f.pc = 1 then onS s id (touchD s.M (linkAt (idx (gi f.R 0)))) (regF f 1 (loadD s.M (linkAt (idx (gi f.R 0))))) 2
  else if f.pc = 2 then
    if casIs s.M 0 (gi f.R 0) then backS (memS s (turnMD (casD s.M 0 (gi f.R 0) (nextW (gi f.R 0) (gi f.R 1) 0)) (idx (gi f.R 0)) 1)) id (idx (gi f.R 0)) 0
    else onS s id (casD s.M 0 (gi f.R 0) (nextW (gi f.R 0) (gi f.R 1) 0)) f 0
  else s
def pushS (s : SysD) (id : Int) (f : FrameD) : SysD :=
  if f.pc = 0 then onS s id (touchD s.M 0) (regF f 1 (loadD s.M 0)) 1
  else if f.pc = 1 then onS s id (storeD s.M (linkAt (gi f.R 0)) (idx (gi f.R 1))) f 2
  else if f.pc = 2 then
    if casIs s.M 0 (gi f.R 1) then backS (memS s (turnMD (casD s.M 0 (gi f.R 1) (nextW (gi f.R 1) (gi f.R 0) 0)) (gi f.R 0) 0)) id (gi f.R 0) 0
    else onS s id (casD s.M 0 (gi f.R 1) (nextW (gi f.R 1) (gi f.R 0) 0)) f 0
  else s
def step4 (s : SysD) (id : Int) : SysD :=
  match topD s id with
  | some f => if f.op = 1 then popS s id f else if f.op = 2 then pushS s id f else s
  | none => s
def own4 (op : Int) : Bool := decide (op = 1) || decide (op = 2)
/-- the arena when the nodes from i on are still to be laid in -/
def fillL (n : Nat) : Nat → Nat → Arena → Arena
  | 0, _, m => m
  | k + 1, i, m => fillL n k (i + 1) (storeD m (linkAt i) (if i = n then 0 else (i : Int) + 1))
def fillD (m : Arena) : Arena := storeD (fillL (m.G.length - 1) (m.G.length - 1) 1 m) 0 2
def walkF (m : Arena) : Nat → Int → List Int → List Int × Bool
  | 0, _, _ => ([], false)
  | k + 1, p, out => if p = 0 then (out, true) else if p < 0 ∨ (m.G.length : Int) ≤ p ∨ p ∈ out then ([], false) else walkF m k (loadD m (linkAt p)) (out ++ [p])
def walkD (m : Arena) : List Int × Bool := walkF m (m.G.length + 1) (idx (loadD m 0)) []
def new4 (c n : Int) : SysD := if newSE c n = 0 then memS (newS c n) (fillD (newD n)) else newS c n

def placeD (id slot : Int) : Int := wrap64 (8 + 3 * id + slot)
def own5 (op : Int) : Bool := decide (op = 3) || decide (op = 4)
def protS (s : SysD) (id : Int) (f : FrameD) : SysD :=
  if f.pc = 1 then onS s id (storeD s.M (placeD id (gi f.R 1)) (idx (gi f.R 2))) f 2
  else if f.pc = 0 then
    if idx (loadD s.M (gi f.R 0)) = 0 then backS (memS s (touchD s.M (gi f.R 0))) id (loadD s.M (gi f.R 0)) 0
    else onS s id (touchD s.M (gi f.R 0)) (regF f 2 (loadD s.M (gi f.R 0))) 1
  else if f.pc = 2 then
    if loadD s.M (gi f.R 0) = gi f.R 2 ∨ idx (loadD s.M (gi f.R 0)) = 0 then backS (memS s (touchD s.M (gi f.R 0))) id (loadD s.M (gi f.R 0)) 0
    else onS s id (touchD s.M (gi f.R 0)) (regF (regF f 3 (loadD s.M (gi f.R 0))) 2 (loadD s.M (gi f.R 0))) 1
  else s
def clearS (s : SysD) (id : Int) (f : FrameD) : SysD :=
  if f.pc = 2 then backS (memS s (storeD s.M (placeD id f.pc) 0)) id 0 0
  else onS s id (storeD s.M (placeD id f.pc) 0) f (f.pc + 1)
def step5 (s : SysD) (id : Int) : SysD :=
  match topD s id with
  | some f => if f.op = 3 then protS s id f else if f.op = 4 ∧ 0 ≤ f.pc ∧ f.pc ≤ 2 then clearS s id f else s
  | none => s
/-- which nodes are named: by the slots of so many cores -/
def namedD (s : SysD) : List Bool := ((List.range s.M.G.length).map fun (p : Nat) => decide (0 < p) && ((s.M.W.drop 8).take (3 * s.C.length)).any fun x => x == (p : Int))

theorem wrapI_in {x : Int} (h : -9223372036854775808 ≤ x) (h' : x ≤ 9223372036854775807) : wrap64 x = x := by unfold wrap64; omega
theorem linkAt_in {p : Int} (h : -1000000000 ≤ p) (h' : p ≤ 1000000000) : linkAt p = 128 + 4 * (p - 1) := by unfold linkAt; exact wrapI_in (by omega) (by omega)
theorem idx_lo (x : Int) : 0 ≤ idx x ∧ idx x < 1048576 := by unfold idx; omega
end Go.Proofs.Ytcfbdfgondmkoaa
