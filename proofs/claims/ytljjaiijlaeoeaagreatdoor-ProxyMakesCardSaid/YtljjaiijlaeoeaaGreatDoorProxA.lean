/- A part. -/
import Derived.Test.YtljjaiijlaeoeaaGreatDoorEng13
import Derived.Test.YtljjaiijlaeoeaaGreatDoorPure4
import Derived.KernelRfl
set_option linter.unusedVariables false
namespace Go.Eng
open Go
theorem zKJ {α:Type} (l:List α) (n:Nat):xnth l (n:Int)=l[n]?:=by
  unfold xnth; rw [if_pos (by omega)]; rfl
theorem zKG {α:Type} {l k:List α} (h:l.length+k.length≤big):xapp l k=some (l++k):=by
  unfold xapp; rw [if_pos h]
theorem zKM {n:Int} (h0:-1000000000000000000≤n) (h:n≤1000000000000000000):wr n=n:=wr_eq ⟨by omega,by omega⟩
theorem zKC {α:Type} (x y:α):(bif true then x else y)=x:=rfl
theorem zJ9 {α:Type} (x y:α):(bif false then x else y)=y:=rfl
theorem zHY {α β:Type} (a:α) (f:α→Option β):(some a).bind f=f a:=rfl
def rtrim (p:UInt8→Bool) (s:Str):Str:=(s.reverse.dropWhile p).reverse
def ltrim (p:UInt8→Bool) (s:Str):Str:=s.dropWhile p
end Go.Eng
namespace Go.Eng
open Go
def run {α σ ρ:Type} (f:σ→α→σ ⊕ ρ) (fin:σ→ρ):List α→σ→ρ
  | [],st=>fin st
  | x :: l,st=>match f st x with | .inl st'=>run f fin l st' | .inr r=>r
theorem zKH {n m:Nat} (h:n<m):decide ((n:Int)<(m:Int))=true:=decide_eq_true (by omega)
theorem zKD {n m:Nat} (h:m≤n):decide ((n:Int)<(m:Int))=false:=decide_eq_false (by omega)
theorem zKE {α:Type} {l:List α} {n:Nat} (h:n<l.length):xnth l (n:Int)=some l[n]:=by rw [zKJ,List.getElem?_eq_getElem h]
end Go.Eng
namespace Go.Eng.Pure
open Go Go.Eng
set_option linter.unusedVariables false
def bl (c:UInt8):Bool:=c==32||c==9
def trim (s:Str):Str:=ltrim bl (rtrim bl s)
def step (st:Nat) (c:UInt8):Nat:=if st=2 then 1 else if st=1∧c=92 then 2 else if c=34 then 1 - st else st
def segs (a:UInt8):Nat→Str→Str→List Str
  | _,cur,[]=>[cur]
  | st,cur,c :: r=>if st=0∧c=a then cur :: segs a 0 [] r else segs a (step st c) (cur++[c]) r
def cutS (a:UInt8) (s:Str):List Str:=segs a 0 [] s
def mem64 (l:List Str):List Str:=((l.map trim).filter fun x=>x !=[]).take 64
def split (s:Str):List Str:=mem64 (cutS 44 s)
end Go.Eng.Pure
namespace Go.Eng.Pure
open Go Go.Eng
set_option linter.unusedVariables false
theorem zKL (p:UInt8→Bool) (h:(List.range 256).all (fun n=>p (UInt8.ofNat n))=true) (c:UInt8):p c=true:=by
  have h1:=List.all_eq_true.1 h c.toNat (List.mem_range.2 c.toNat_lt)
  rwa [UInt8.ofNat_toNat] at h1
def signs:Str:=[33,35,36,37,38,39,42,43,45,46,94,95,96,124,126]
def tokB (c:UInt8):Bool:=(((decide (97≤c))&&(decide (c≤122)))||((decide (65≤c))&&(decide (c≤90))))||((decide (48≤c))&&(decide (c≤57)))||signs.contains c
def tok (s:Str):Bool:=s.all tokB&&s !=[]
theorem zKN (c:UInt8):zJ7 c=some (tokB c):=by
  have:=zKL (fun c=>decide (zJ7 c=some (tokB c))) (by decide +kernel) c
  simpa using this
theorem zKI (l:Str) (p:UInt8→Bool):l.any (fun c=>!p c)=!l.all p:=by
  induction l with
  | nil=>rfl
  | cons a l ih=>rw [List.any_cons,List.all_cons,ih,Bool.not_and]
def cap (n:Int):Int:=if 2147483647<n then 2147483647 else n
end Go.Eng.Pure
namespace Go.Eng.Pure
open Go Go.Eng
set_option maxRecDepth 100000 in
theorem zGL:zAU=some true:=by kernel_rfl
theorem zKK {ρ : Type} (s : Str) (hs : s.length ≤ 1000) (bad : UInt8 → Bool) (body : Int → Option (Int ⊕ ρ)) (stop done : ρ)
    (h:∀ (n:Nat) (hn:n<s.length),body (n:Int)=some (if bad s[n]=true then .inr stop else .inl ((n+1:Nat):Int)))
    (h':body (s.length:Int)=some (.inr done)):lf body 0=some (if s.any bad then stop else done):=by
  have key:∀ (k n m:Nat),n+k=s.length→loopN body (k+1+m) (n:Int)=some (if (s.drop n).any bad then stop else done):=by
    intro k
    induction k with
    | zero =>
      intro n m hn
      have:n=s.length:=by omega
      subst this
      rw [show 0+1+m=m+1 by omega,loopN,h',List.drop_length]; rfl
    | succ k ih =>
      intro n m hn
      have hlt:n<s.length:=by omega
      have hb:=h n hlt
      rw [show k+1+1+m=(k+1+m)+1 by omega,loopN,hb,List.drop_eq_getElem_cons hlt,List.any_cons]
      cases hbad:bad s[n] with
      | true=>simp
      | false=>simp only [Bool.false_eq_true,if_false,Bool.false_or]; exact ih (n+1) m (by omega)
  have:=key s.length 0 (99999 - s.length) (by omega)
  rw [show s.length+1+(99999 - s.length)=100000 by omega,List.drop_zero] at this
  exact this
theorem zKF (s:Str) (hs:s.length≤1000):zBK s=some (tok s):=by
  have hp:∀ c,zGn c=zJ7 c:=fun _=>rfl
  unfold zBK tok
  rw [zKK s hs (fun c=>!tokB c) (zEZ s) (.inr false) (.inl ())]
  · rw [zKI]; cases s.all tokB <;> rfl
  · intro n hn
    simp only [zEZ,zKH hn,zKC,zKE hn,zHY,hp,zKN]
    rw [zKM (by omega) (by omega)]
    cases tokB s[n] <;> rfl
  · simp only [zEZ,zKD (Nat.le_refl s.length),zJ9]
theorem zKB (s:Str) (hs:s.length≤1000):zJ1 s=some (tok s):=by
  have hp:∀ c,zJx c=some (tokB c):=fun c=>by
    have:=zKL (fun c=>decide (zJx c=some (tokB c))) (by decide +kernel) c
    simpa using this
  unfold zJ1 tok
  rw [zKK s hs (fun c=>!tokB c) (zJw s) (.inr false) (.inl ())]
  · rw [zKI]; cases s.all tokB <;> rfl
  · intro n hn
    simp only [zJw,zKH hn,zKC,zKE hn,zHY,hp]
    rw [zKM (by omega) (by omega)]
    cases tokB s[n] <;> rfl
  · simp only [zJw,zKD (Nat.le_refl s.length),zJ9]
theorem zJ2 (a b:Int):decide (a≤b)=!decide (b<a):=by
  by_cases h:a≤b
  · rw [decide_eq_true h,decide_eq_false (by omega)]; rfl
  · rw [decide_eq_false h,decide_eq_true (by omega)]; rfl
theorem zKA (c:GConfig):zJz c=some true:=by
  unfold zJz
  by_cases h:1000<(c.fName.length:Int)
  · rw [decide_eq_true h]; rfl
  have hl:c.fName.length≤1073741824:=by omega
  have hc:zAb ([]:List Str)=some []:=zKG (by simp)
  rw [decide_eq_false h,zJ9]
  unfold zJv zJ3
  rw [zKF _ (by omega),zKB _ (by omega),zGL,hc,zJ2 1 c.fBytes,zJ2 c.fBytes,zJ2 1 c.fVariants,zJ2 c.fVariants,zJ2 1 c.fTables,zJ2 c.fTables,zJ2 _ 100]
  generalize tok c.fName=tk
  generalize decide (100<(c.fName.length:Int))=d
  generalize hA:((((((decide (c.fBytes<1))||(decide (100000000<c.fBytes)))||(decide (c.fVariants<1)))||(decide (64<c.fVariants)))||(decide (c.fTables<1)))||(decide (1000<c.fTables)))=A
  have hB:((((((!decide (c.fBytes<1))&&(!decide (100000000<c.fBytes)))&&(!decide (c.fVariants<1)))&&(!decide (64<c.fVariants)))&&(!decide (c.fTables<1)))&&(!decide (1000<c.fTables)))=!A:=by rw [← hA]; simp only [Bool.not_or]
  rw [hB]
  generalize c.fRefuse=rf
  generalize c.fStrict=sr
  cases A <;> cases tk <;> cases d <;> cases rf <;> cases sr <;> rfl
end Go.Eng.Pure
