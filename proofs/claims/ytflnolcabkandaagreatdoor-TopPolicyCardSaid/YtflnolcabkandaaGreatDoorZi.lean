/- Own slices as blocks: cap, parts, copy, zeros appended beyond the room. Conditions: none. -/
import Derived.Test.YtflnolcabkandaaGreatDoorZb
set_option linter.unusedSimpArgs false
set_option linter.unusedVariables false
set_option maxHeartbeats 2000000
set_option maxRecDepth 100000
namespace Go.Gw
open Go
section
variable {ρ:Option Nat}{P:Program}{N:Nat}{D:Dw}{ops:Array Oper}{rest:List Oper}{Q:B9}{f:Fr}{w w':World}{v:Value}
variable {dst:Option Nat}{ty t t' t2:TypeId}{pos:String}{af:Array Edge}{x y c a b:Operand}{m:Mem}{As:List Ow}
theorem St.blkRow {sz n cap b:Nat}{l:Array Value}{e:TypeId}{fr:Nat×Nat}{cs:List Value}(hS:St m (Gw.blk b (.cells l e fr)::As) w)(hc:cs.length=n*sz)(ht:l.toList.take (n*sz)=cs)(hl:l.size=cap*sz)(hn:n≤cap)(hm:cap≤maxLen)(hf:frOk fr l.size)(hf2:fr.1=fr.2∨sz=1):
  St m (row sz (.slice (some ⟨b,0,none⟩) n cap) cs n::As) w:=
 hS.imp0 fun h hh=> .inr ⟨b,cap,l,e,fr,rfl,hh,hc,ht,hl,hn,hm,hf,hf2⟩
end
end Go.Gw
