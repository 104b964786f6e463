/- The structures of the program and how they are encoded. Conditions: none. -/
import Derived.Test.YtonbnfgknijpoaaGc
namespace Go.Gg
structure GRat where
  Neg : Bool
  Num : List Int
  Den : List Int
instance : Inhabited GRat := ⟨⟨false, [], []⟩⟩
def eRat (r : GRat) : AV := .agg [.bool r.Neg, eL (AV.int .u32) r.Num, eL (AV.int .u32) r.Den]
structure GRates where
  Fail : List GRat
  Repair : List GRat
instance : Inhabited GRates := ⟨⟨[], []⟩⟩
def eRates (r : GRates) : AV := .agg [eL eRat r.Fail, eL eRat r.Repair]
structure GMove where
  From : Int
  To : Int
  Rate : GRat
instance : Inhabited GMove := ⟨⟨0, 0, default⟩⟩
def eMove (r : GMove) : AV := .agg [.int .i64 r.From, .int .i64 r.To, .bool r.Rate.Neg, eL (AV.int .u32) r.Rate.Num, eL (AV.int .u32) r.Rate.Den]
structure GChain where
  States : Int
  Start : Int
  Moves : List GMove
  Down : List Bool
instance : Inhabited GChain := ⟨⟨0, 0, [], []⟩⟩
def eChain (r : GChain) : AV := .agg [.int .i64 r.States, .int .i64 r.Start, eL eMove r.Moves, eL AV.bool r.Down]
structure GNode where
  Kind : Int
  K : Int
  Args : List Int
instance : Inhabited GNode := ⟨⟨0, 0, []⟩⟩
def eNode (r : GNode) : AV := .agg [.int .i64 r.Kind, .int .i64 r.K, eL (AV.int .i64) r.Args]
structure GFormula where
  Vars : Int
  Nodes : List GNode
  Top : Int
instance : Inhabited GFormula := ⟨⟨0, [], 0⟩⟩
def eFormula (r : GFormula) : AV := .agg [.int .i64 r.Vars, eL eNode r.Nodes, .int .i64 r.Top]
structure GMission where
  Phases : List GFormula
  P : List (List GRat)
instance : Inhabited GMission := ⟨⟨[], []⟩⟩
def eMission (r : GMission) : AV := .agg [eL eFormula r.Phases, eL (eL eRat) r.P]
structure GCauseGroup where
  Kind : Int
  Members : List Int
  Factors : List GRat
instance : Inhabited GCauseGroup := ⟨⟨0, [], []⟩⟩
def eCauseGroup (r : GCauseGroup) : AV := .agg [.int .i64 r.Kind, eL (AV.int .i64) r.Members, eL eRat r.Factors]
structure Gcause where
  p : GRat
  members : List Int
instance : Inhabited Gcause := ⟨⟨default, []⟩⟩
def ecause (r : Gcause) : AV := .agg [.bool r.p.Neg, eL (AV.int .u32) r.p.Num, eL (AV.int .u32) r.p.Den, eL (AV.int .i64) r.members]
end Go.Gg
