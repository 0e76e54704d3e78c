/- A part of the proof of laws of the seat. -/
import Derived.Test.YtljjaiijlaeoeaaGreatDoorEng13
import Derived.Test.YtljjaiijlaeoeaaGreatDoorPure4
import Derived.KernelRfl
set_option linter.unusedVariables false
namespace Go.Eng
open Go
theorem zL2 {α:Type} (l:List α) (n:Nat):xnth l (n:Int)=l[n]?:=by
  unfold xnth; rw [if_pos (by omega)]; rfl
theorem zKi {n:Int} (h0:-1000000000000000000≤n) (h:n≤1000000000000000000):wr n=n:=wr_eq ⟨by omega,by omega⟩
theorem zLH {α:Type} (x y:α):(bif true then x else y)=x:=rfl
theorem zKP {α:Type} (x y:α):(bif false then x else y)=y:=rfl
theorem zHB {α β:Type} (a:α) (f:α→Option β):(some a).bind f=f a:=rfl
theorem zLC {σ ρ:Type} {body:σ→Option (σ ⊕ ρ)} {s:σ} (h:body s=none):zAN body s=none:=by
  cases hw:zAN body s with
  | none=>rfl
  | some r =>
    obtain ⟨n,hn⟩:=zHS hw
    cases n with
    | zero=>simp [loopN] at hn
    | succ n=>simp [loopN,h] at hn
theorem zKu {σ ρ:Type} (body:σ→Option (σ ⊕ ρ)) (s:σ):zAN body s=(body s).bind fun x=>match x with | .inl s'=>zAN body s' | .inr r=>some r:=by
  cases h:body s with
  | none=>rw [zLC h]; rfl
  | some x =>
    cases x with
    | inl s'=>rw [zKX h]; rfl
    | inr r=>rw [zJI h]; rfl
def rtrim (p:UInt8→Bool) (s:Str):Str:=(s.reverse.dropWhile p).reverse
def ltrim (p:UInt8→Bool) (s:Str):Str:=s.dropWhile p
end Go.Eng
namespace Go.Eng
open Go
def run {α σ ρ:Type} (f:σ→α→σ ⊕ ρ) (fin:σ→ρ):List α→σ→ρ
  | [],st=>fin st
  | x :: l,st=>match f st x with | .inl st'=>run f fin l st' | .inr r=>r
theorem zLz {n m:Nat} (h:n<m):decide ((n:Int)<(m:Int))=true:=decide_eq_true (by omega)
theorem zLM {α:Type} {l:List α} {n:Nat} (h:n<l.length):xnth l (n:Int)=some l[n]:=by rw [zL2,List.getElem?_eq_getElem h]
end Go.Eng
namespace Go.Eng.Pure
open Go Go.Eng
set_option linter.unusedVariables false
def bl (c:UInt8):Bool:=c==32||c==9
def trim (s:Str):Str:=ltrim bl (rtrim bl s)
def step (st:Nat) (c:UInt8):Nat:=if st=2 then 1 else if st=1∧c=92 then 2 else if c=34 then 1 - st else st
def segs (a:UInt8):Nat→Str→Str→List Str
  | _,cur,[]=>[cur]
  | st,cur,c :: r=>if st=0∧c=a then cur :: segs a 0 [] r else segs a (step st c) (cur++[c]) r
def cutS (a:UInt8) (s:Str):List Str:=segs a 0 [] s
def mem64 (l:List Str):List Str:=((l.map trim).filter fun x=>x !=[]).take 64
def split (s:Str):List Str:=mem64 (cutS 44 s)
end Go.Eng.Pure
namespace Go.Eng.Pure
open Go Go.Eng
set_option linter.unusedVariables false
def cap (n:Int):Int:=if 2147483647<n then 2147483647 else n
end Go.Eng.Pure
namespace Go.Eng.Pure
open Go Go.Eng
set_option maxRecDepth 100000 in
theorem zJk:law32_awake_q=some true:=by kernel_rfl
theorem zLU (l : List Int) (hl : l.length ≤ 50) (nm : Str) (b v t : Int) (s r : Bool) : ∀ (k i : Nat) (n : Int), l.length - i = k → i ≤ l.length → 0 ≤ n → n ≤ 1099511627776 →
    zAN (zAm l) (n,(i:Int),nm,b,v,t,s,r,n,b,v,t,0,[])=some (.inl ()):=by
  intro k
  induction k with
  | zero =>
    intro i n hk hi h0 h1
    rw [zKu]
    unfold zAm
    simp only [show decide ((i:Int)<(l.length:Int))=false from decide_eq_false (by omega),zKP,zHB]
  | succ k ih =>
    intro i n hk hi h0 h1
    have hil:i<l.length:=by omega
    have hw:wr (1099511627776 - n)=1099511627776 - n:=zKi (by omega) (by omega)
    have hi1:wr ((i:Int)+1)=((i+1:Nat):Int):=by rw [zKi (by omega) (by omega)]; rfl
    have key:∃ n',0≤n'∧n'≤1099511627776∧zAm l (n,(i:Int),nm,b,v,t,s,r,n,b,v,t,0,[])=some (.inl (n',((i+1:Nat):Int),nm,b,v,t,s,r,n',b,v,t,0,[])):=by
      unfold zAm
      simp only [zLz hil,zLH,zLM hil,zHB,hw,hi1]
      by_cases hx:l[i]<0
      · refine ⟨n,h0,h1,?_⟩
        simp [hx,show ¬ (0<l[i]) by omega]
      · by_cases hp:0<l[i]
        · by_cases hm:1099511627776 - n<l[i]
          · refine ⟨1099511627776,by omega,by omega,?_⟩
            have e:wr (n+(1099511627776 - n))=1099511627776:=by rw [zKi (by omega) (by omega)]; omega
            simp [hx,hp,hm,e]
          · refine ⟨n+l[i],by omega,by omega,?_⟩
            have e:wr (n+l[i])=n+l[i]:=zKi (by omega) (by omega)
            simp [hx,hp,hm,e]
        · have hz:l[i]=0:=by omega
          refine ⟨n,h0,h1,?_⟩
          have e:wr n=n:=zKi (by omega) (by omega)
          have hm:¬ (1099511627776 - n<0):=by omega
          rw [hz]
          simp [hm,e]
    obtain ⟨n',g0,g1,e⟩:=key
    rw [zKu,e]
    exact ih (i+1) n' (by omega) (by omega) g0 g1
theorem zKK (l:List Int):zFe l=some true:=by
  unfold zFe
  by_cases h:50<(l.length:Int)
  · rw [decide_eq_true h]; rfl
  rw [decide_eq_false h,zKP]
  have hT:zNW [112]=some true:=by kernel_rfl
  rw [show zNy=some ⟨[112],1000,4,4,false,false⟩ from rfl,zHB]
  dsimp only
  rw [hT,zHB]
  have:=zLU l (by omega) [112] 1000 4 4 false false l.length 0 0 rfl (by omega) (by omega) (by omega)
  show (zAN (zAm l) (0,((0:Nat):Int),[112],1000,4,4,false,false,0,1000,4,4,0,[])).bind _=_
  rw [this,zHB]
  show law32_awake_q.bind _=_
  rw [zJk]; rfl
end Go.Eng.Pure
