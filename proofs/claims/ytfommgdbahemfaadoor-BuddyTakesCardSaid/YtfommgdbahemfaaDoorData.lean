/-
  Plain data of the program (no program text in sight): the structs of package api as Lean structures, and the lists of their cells.
-/
namespace Go.Proofs.YtfommgdbahemfaaDoor

structure Region where
  From : Int
  Size : Int
  deriving DecidableEq

structure Boot where
  Memory : List Region
  Reserved : List Region

structure Block where
  At : Int
  Order : Int
  Ty : Int
  deriving DecidableEq

structure Zone where
  From : Int
  To : Int
  Free : List Block
  Types : List Int
  deriving DecidableEq

structure PList where
  Cpu : Int
  Zone : Int
  Ty : Int
  Pages : List Int

structure Heap where
  Zones : List Zone
  Mins : List Int
  Cpus : Int
  Lists : List PList
  Live : List Block

structure Slab where
  At : Int
  Free : Int
  First : Int
  deriving DecidableEq

structure Cache where
  Names : List (List UInt8)
  Size : Int
  Per : Int
  Order : Int
  Slabs : List Slab
  Active : List Int

structure System where
  Words : List Int
  Heap : Heap
  Caches : List Cache

end Go.Proofs.YtfommgdbahemfaaDoor
