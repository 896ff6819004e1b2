/- A part of the proof: short names. -/
import Derived.WalkKit
import Derived.WalkSpells
import Derived.WalkLawsBesides
import Derived.Sort.Grow
import Derived.Lib.Hide
namespace Go.Proofs.YtoimdiballicnaaGreatDoor
open Go.RowKit
abbrev vI(n:Int):Value:=.int .i64 n
abbrev vS(l:List UInt8):Value:=.string ⟨l.toArray⟩
abbrev vZ:Value:=.slice none 0 0
abbrev vE:Value:=.string ⟨#[]⟩
abbrev LB:=List UInt8
theorem Hz{p:Prop}(h:p):Hid p:=Lib.hid h
theorem nE{α:Type}{x:α}:¬x∈([]:List α):=List.not_mem_nil
theorem sX:(∀{α:Type}{l:List α}{i:Nat}{a:α},l.toArray.setIfInBounds i a=(l.set i a).toArray)∧(∀{α:Type}{l:List α}{a b:α},(a::l).set 0 b=b::l)∧(∀{α:Type}{l:List α}{n:Nat}{a b:α},(a::l).set (n+1) b=a::l.set n b):=⟨by intros;simp,by intros;rfl,by intros;rfl⟩
theorem bN{α:Type}[BEq α][LawfulBEq α]{a b:α}:(a==b)=false↔a≠b:=beq_eq_false_iff_ne
end Go.Proofs.YtoimdiballicnaaGreatDoor
