/- Short names for what the texts of this claim use often. -/
import Derived.Lib.Hide
namespace Go
theorem O{p:Prop}(h:p):RowKit.Hid p:=h
theorem xA{α:Type _}{xs:Array α}{i:Nat}{x:α}(h:xs[i]?=some x):∃h:i<xs.size,xs[i]=x:=Array.getElem?_eq_some_iff.1 h
theorem xL{α:Type _}{xs:List α}{i:Nat}{x:α}(h:xs[i]?=some x):∃h:i<xs.length,xs[i]=x:=List.getElem?_eq_some_iff.1 h
end Go
