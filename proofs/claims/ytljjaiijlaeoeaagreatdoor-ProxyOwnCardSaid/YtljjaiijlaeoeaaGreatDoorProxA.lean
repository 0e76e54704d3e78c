/- A part. -/
import Derived.Test.YtljjaiijlaeoeaaGreatDoorEng13
import Derived.Test.YtljjaiijlaeoeaaGreatDoorPure4
import Derived.KernelRfl
set_option linter.unusedVariables false
namespace Go.Eng
open Go
theorem zJ9 {α:Type} (x y:α):(bif false then x else y)=y:=rfl
theorem zHY {α β:Type} (a:α) (f:α→Option β):(some a).bind f=f a:=rfl
def rtrim (p:UInt8→Bool) (s:Str):Str:=(s.reverse.dropWhile p).reverse
def ltrim (p:UInt8→Bool) (s:Str):Str:=s.dropWhile p
end Go.Eng
namespace Go.Eng
open Go
def run {α σ ρ:Type} (f:σ→α→σ ⊕ ρ) (fin:σ→ρ):List α→σ→ρ
  | [],st=>fin st
  | x :: l,st=>match f st x with | .inl st'=>run f fin l st' | .inr r=>r
end Go.Eng
namespace Go.Eng.Pure
open Go Go.Eng
set_option linter.unusedVariables false
def bl (c:UInt8):Bool:=c==32||c==9
def trim (s:Str):Str:=ltrim bl (rtrim bl s)
def step (st:Nat) (c:UInt8):Nat:=if st=2 then 1 else if st=1∧c=92 then 2 else if c=34 then 1 - st else st
def segs (a:UInt8):Nat→Str→Str→List Str
  | _,cur,[]=>[cur]
  | st,cur,c :: r=>if st=0∧c=a then cur :: segs a 0 [] r else segs a (step st c) (cur++[c]) r
def cutS (a:UInt8) (s:Str):List Str:=segs a 0 [] s
def mem64 (l:List Str):List Str:=((l.map trim).filter fun x=>x !=[]).take 64
def split (s:Str):List Str:=mem64 (cutS 44 s)
end Go.Eng.Pure
namespace Go.Eng.Pure
open Go Go.Eng
set_option linter.unusedVariables false
def cap (n:Int):Int:=if 2147483647<n then 2147483647 else n
end Go.Eng.Pure
namespace Go.Eng.Pure
open Go Go.Eng
set_option maxRecDepth 100000 in
theorem zGL:zAU=some true:=by kernel_rfl
theorem zLq (s : Int) (h1 : s ≠ 400) (h2 : s ≠ 406) (h3 : s ≠ 413) (h4 : s ≠ 431) (h5 : s ≠ 501) (h6 : s ≠ 502) (h7 : s ≠ 504) (h8 : s ≠ 505) :
    zLF s=some ⟨0,0,[],[],[]⟩∧zLC s=some ⟨0,0,[],[],[]⟩:=by
  unfold zLF zLC
  simp only [beq_false_of_ne h1,beq_false_of_ne h2,beq_false_of_ne h3,beq_false_of_ne h4,beq_false_of_ne h5,beq_false_of_ne h6,beq_false_of_ne h7,beq_false_of_ne h8,zJ9,zHY,and_self]
theorem zLy:zKO 400=some true:=by kernel_rfl
theorem zLw:zKO 406=some true:=by kernel_rfl
theorem zLz:zKO 413=some true:=by kernel_rfl
theorem zLx:zKO 431=some true:=by kernel_rfl
theorem zLt:zKO 501=some true:=by kernel_rfl
theorem zLs:zKO 502=some true:=by kernel_rfl
theorem zLv:zKO 504=some true:=by kernel_rfl
theorem zLu:zKO 505=some true:=by kernel_rfl
theorem zLp (s:Int):zKO s=some true:=by
  by_cases h1:s=400
  · subst h1; exact zLy
  by_cases h2:s=406
  · subst h2; exact zLw
  by_cases h3:s=413
  · subst h3; exact zLz
  by_cases h4:s=431
  · subst h4; exact zLx
  by_cases h5:s=501
  · subst h5; exact zLt
  by_cases h6:s=502
  · subst h6; exact zLs
  by_cases h7:s=504
  · subst h7; exact zLv
  by_cases h8:s=505
  · subst h8; exact zLu
  obtain ⟨e1,e2⟩:=zLq s h1 h2 h3 h4 h5 h6 h7 h8
  unfold zKO
  rw [e1,e2,zHY,zHY,zGL]
  have:zKU (⟨0,0,[],[],[]⟩:GResponse) ⟨0,0,[],[],[]⟩=some true:=by kernel_rfl
  rw [this]; rfl
end Go.Eng.Pure
