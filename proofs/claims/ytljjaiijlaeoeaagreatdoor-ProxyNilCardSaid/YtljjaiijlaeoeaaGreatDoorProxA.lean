/- A part. -/
import Derived.Test.YtljjaiijlaeoeaaGreatDoorEng13
import Derived.Test.YtljjaiijlaeoeaaGreatDoorPure4
import Derived.KernelRfl
set_option linter.unusedVariables false
namespace Go.Eng
open Go
theorem zHY {α β:Type} (a:α) (f:α→Option β):(some a).bind f=f a:=rfl
theorem zHm {σ ρ:Type} {body:σ→Option (σ ⊕ ρ)} {s:σ} (h:body s=none):zCj body s=none:=by
  cases hw:zCj body s with
  | none=>rfl
  | some r =>
    obtain ⟨n,hn⟩:=zEP hw
    cases n with
    | zero=>simp [loopN] at hn
    | succ n=>simp [loopN,h] at hn
theorem zHc {σ ρ:Type} (body:σ→Option (σ ⊕ ρ)) (s:σ):zCj body s=(body s).bind fun x=>match x with | .inl s'=>zCj body s' | .inr r=>some r:=by
  cases h:body s with
  | none=>rw [zHm h]; rfl
  | some x =>
    cases x with
    | inl s'=>rw [zHn h]; rfl
    | inr r=>rw [zHo h]; rfl
def rtrim (p:UInt8→Bool) (s:Str):Str:=(s.reverse.dropWhile p).reverse
def ltrim (p:UInt8→Bool) (s:Str):Str:=s.dropWhile p
end Go.Eng
namespace Go.Eng
open Go
def run {α σ ρ:Type} (f:σ→α→σ ⊕ ρ) (fin:σ→ρ):List α→σ→ρ
  | [],st=>fin st
  | x :: l,st=>match f st x with | .inl st'=>run f fin l st' | .inr r=>r
end Go.Eng
namespace Go.Eng.Pure
open Go Go.Eng
set_option linter.unusedVariables false
def bl (c:UInt8):Bool:=c==32||c==9
def trim (s:Str):Str:=ltrim bl (rtrim bl s)
def step (st:Nat) (c:UInt8):Nat:=if st=2 then 1 else if st=1∧c=92 then 2 else if c=34 then 1 - st else st
def segs (a:UInt8):Nat→Str→Str→List Str
  | _,cur,[]=>[cur]
  | st,cur,c :: r=>if st=0∧c=a then cur :: segs a 0 [] r else segs a (step st c) (cur++[c]) r
def cutS (a:UInt8) (s:Str):List Str:=segs a 0 [] s
def mem64 (l:List Str):List Str:=((l.map trim).filter fun x=>x !=[]).take 64
def split (s:Str):List Str:=mem64 (cutS 44 s)
end Go.Eng.Pure
namespace Go.Eng.Pure
open Go Go.Eng
set_option linter.unusedVariables false
def cap (n:Int):Int:=if 2147483647<n then 2147483647 else n
end Go.Eng.Pure
namespace Go.Eng.Pure
open Go Go.Eng
set_option maxRecDepth 100000 in
theorem zGL:zAU=some true:=by kernel_rfl
def noT:GTable:=⟨[],[]⟩
theorem eqNoT:zAH noT noT=some true:=by kernel_rfl
theorem zJf (s:Gvariantproxykeep_Step):∃ n,zCi s=some n:=⟨_,rfl⟩
theorem zH6 (s:Gvariantproxykeep_Step):∃ b,zES [s]=some b:=by
  have e0:zBr [s] 0=(bif decide (1500<(s.fText.length:Int)) then some (Sum.inr (Sum.inr false)) else some (Sum.inl 1)):=rfl
  have e1:zBr [s] 1=some (Sum.inr (Sum.inl ())):=rfl
  unfold zES
  rw [zHc,e0]
  by_cases h:1500<(s.fText.length:Int)
  · refine ⟨false,?_⟩
    rw [decide_eq_true h]; rfl
  · refine ⟨true,?_⟩
    rw [decide_eq_false h]
    show (zCj (zBr [s]) 1).bind _=_
    rw [zHc,e1]; rfl
theorem zHP (s:Gvariantproxykeep_Step) (z:Bool):zD5 s z=some true:=by
  obtain ⟨b,hb⟩:=zH6 s
  obtain ⟨n,hn⟩:=zJf s
  unfold zD5
  have e:zAH (⟨([]:List GAxis),([]:List GEntry)⟩:GTable) (⟨([]:List GAxis),([]:List GEntry)⟩:GTable)=some true:=eqNoT
  rw [hb,zHY,hn,e,zGL]
  simp only [zHY]
  generalize (n==0)=a0
  generalize (n==1)=a1
  generalize (n==2)=a2
  generalize (n==3)=a3
  cases b <;> cases z <;> cases a0 <;> cases a1 <;> cases a2 <;> cases a3 <;> rfl
end Go.Eng.Pure
