/- A part. -/
import Derived.Test.YtipgfplekgdoiaaGreatDoorFindF
set_option linter.unusedVariables false
namespace Go.Eng.Pure
open Go Go.Eng
set_option linter.unusedVariables false
def badX (a:GAxis):Bool:=decide (100<a.fName.length)||!keepS a.fValues
def keepX (l:List GAxis):Bool:=!((l.take 7).any badX)&&decide (l.length≤6)
theorem zKR (l:List GAxis):zHq l=some (keepX l):=by
  unfold zHq keepX
  rw [zFt l 7 badX]
  · have e:decide ((l.length:Int)≤6)=decide (l.length≤6):=zHA l.length 6
    rw [e]
    cases (l.take 7).any badX <;> simp
  · intro n hn hm
    have e1:decide ((n:Int)<7)=true:=zAJ hm
    have e2:wr ((n:Int)+1)=(n:Int)+1:=by rw [wrs (n:=n) (by omega)]; omega
    have e3:decide (100<((l[n].fName.length:Nat):Int))=decide (100<l[n].fName.length):=zIs 100 _
    simp only [zFM,zAJ hn,e1,Bool.and_self,zAC,zAE hn,zAA,e2,zDX,e3]
    unfold badX
    cases decide (100<l[n].fName.length) <;> cases keepS l[n].fValues <;> rfl
  · intro n hn
    have:(decide ((n:Int)<(l.length:Int))&&decide ((n:Int)<7))=false:=by
      rcases hn with h | h
      · rw [zAI h]; rfl
      · rw [show decide ((n:Int)<7)=false from zAI h]; simp
    simp only [zFM,this,zAB]
def keepT (t:GTable):Bool:=!((t.fEntries.take 9).any fun e=>!keepE e)&&(decide (t.fEntries.length≤8)&&keepX t.fAxes)
theorem zJ1 (t:GTable):zGu t=some (keepT t):=by
  unfold zGu keepT
  rw [zFt t.fEntries 9 (fun e=>!keepE e),zAA,zKR]
  · have e:decide ((t.fEntries.length:Int)≤8)=decide (t.fEntries.length≤8):=zHA _ 8
    rw [e]
    cases (t.fEntries.take 9).any (fun e=>!keepE e) <;> cases decide (t.fEntries.length≤8) <;> cases keepX t.fAxes <;> rfl
  · intro n hn hm
    have e1:decide ((n:Int)<9)=true:=zAJ hm
    have e2:wr ((n:Int)+1)=(n:Int)+1:=by rw [wrs (n:=n) (by omega)]; omega
    simp only [zEp,zAJ hn,e1,Bool.and_self,zAC,zAE hn,zAA,e2,zJt]
    cases keepE t.fEntries[n] <;> rfl
  · intro n hn
    have:(decide ((n:Int)<(t.fEntries.length:Int))&&decide ((n:Int)<9))=false:=by
      rcases hn with h | h
      · rw [zAI h]; rfl
      · rw [show decide ((n:Int)<9)=false from zAI h]; simp
    simp only [zEp,this,zAB]
def kpA (l:List GAxis):Prop:=l.length≤6∧∀ a ∈ l,a.fName.length≤100∧a.fValues.length≤20∧∀ v ∈ a.fValues,v.length≤100
theorem zLu {l:List GAxis} (h:keepX l=true):kpA l:=by
  unfold keepX at h
  simp only [Bool.and_eq_true,Bool.not_eq_true',decide_eq_true_eq] at h
  refine ⟨h.2,fun a ha=>?_⟩
  rw [List.take_of_length_le (by omega)] at h
  have:=List.any_eq_false.1 h.1 a ha
  simp only [badX,Bool.or_eq_true,decide_eq_true_eq,Bool.not_eq_true',not_or,Bool.not_eq_false] at this
  have h2:=zL0 this.2
  exact ⟨by omega,h2.1,h2.2⟩
theorem zKD {l:List GAxis} (h:kpA l):∀ a ∈ l,smA a:=fun a ha=>by
  obtain ⟨h1,h2,h3⟩:=h.2 a ha
  exact ⟨by omega,fun v hv=>by have:=h3 v hv; omega⟩
theorem zJ3 {l:List GAxis} (h:kpA l):smAx l:=⟨by have:=h.1; omega,fun a ha=>by have:=(h.2 a ha).1; omega⟩
theorem zJj {l:List GAxis} (h:kpA l):∀ a ∈ l,a.fValues.length≤1000000:=fun a ha=>by have:=(h.2 a ha).2.1; omega
theorem zIf {e:GEntry} (h:smE e):smEn e:=by
  obtain ⟨⟨h1,h2⟩,h3,h4,h5,_⟩:=h
  exact ⟨by omega,fun k hk=>by have:=(h2 k hk).1; omega,by have:=h3.1; omega,by have:=h4.1; omega,by have:=h5.1; omega⟩
theorem zIe {e:GEntry} (h:smE e):smKs e.fKeys:=by
  obtain ⟨⟨h1,h2⟩,_⟩:=h
  exact ⟨by omega,fun k hk=>⟨by have:=(h2 k hk).1; omega,fun v hv=>by have:=(h2 k hk).2 v hv; omega⟩⟩
def kpT (t:GTable):Prop:=kpA t.fAxes∧t.fEntries.length≤8∧∀ e ∈ t.fEntries,smE e
theorem zIc {t:GTable} (h:keepT t=true):kpT t:=by
  unfold keepT at h
  simp only [Bool.and_eq_true,Bool.not_eq_true',decide_eq_true_eq] at h
  obtain ⟨h1,h2,h3⟩:=h
  refine ⟨zLu h3,h2,fun e he=>?_⟩
  rw [List.take_of_length_le (by omega)] at h1
  have:=List.any_eq_false.1 h1 e he
  exact zKB (by simpa using this)
theorem zId {t:GTable} (h:kpT t):smTb t:=⟨zJ3 h.1,zJj h.1,by have:=h.2.1; omega,fun e he=>⟨zIf (h.2.2 e he),zIe (h.2.2 e he)⟩⟩
structure FindOK (t:GTable) (l:List GField):Prop where
  ax:∀ a ∈ t.fAxes,smA a
  al:t.fAxes.length≤1000000
  nm:t.fEntries.length≤1000000
  vr:∀ e ∈ t.fEntries,e.fVary.length≤1000∧∀ n ∈ e.fVary,n.length≤1073741824
  sn:∀ e ∈ t.fEntries,e.fSnapshot.length≤1073741824
  ks:∀ e ∈ t.fEntries,smKs e.fKeys
  fl:smL l
theorem zOP {t:GTable} {l:List GField} (h:kpT t) (hl:smL l):FindOK t l:=by
  refine ⟨zKD h.1,by have:=h.1.1; omega,by have:=h.2.1; omega,fun e he=>?_,fun e he=>?_,fun e he=>zIe (h.2.2 e he),hl⟩
  · obtain ⟨_,h3,_⟩:=h.2.2 e he
    exact ⟨h3.1,fun n hn=>by have:=h3.2 n hn; omega⟩
  · obtain ⟨_,_,h4,_⟩:=h.2.2 e he
    have:=h4.1; omega
def findS (t:GTable) (l:List GField) (strict:Bool):Int×Bool :=
  bif t.fAxes.isEmpty then (lastI t.fEntries (fun e=>snapF l e.fVary==e.fSnapshot) t.fEntries.length,true)
  else bif (bestS t.fAxes l strict).2 then (lastI t.fEntries (fun e=>hasB t.fAxes e (bestS t.fAxes l strict).1) t.fEntries.length,true) else (-1,false)
theorem zPM {axes:List GAxis} (l:List GField) (strict:Bool) (ha:∀ a ∈ axes,smA a) (hn:axes.length≤1000000):(bestS axes l strict).1.length≤1000000∧smKy (bestS axes l strict).1:=by
  unfold bestS
  split
  · refine ⟨by unfold zGc rowsS; simp only [List.length_map]; exact hn,fun v hv=>?_⟩
    unfold zGc rowsS at hv
    simp only [List.mem_map] at hv
    obtain ⟨r,⟨a,ham,rfl⟩,rfl⟩:=hv
    have h2:=(zOZ a l strict).2
    cases hr:rkS l strict a with
    | nil=>simp
    | cons x xs =>
      rw [hr] at h2
      exact (ha a ham).2 x (h2 x List.mem_cons_self)
  · exact ⟨by simp,fun v hv=>by cases hv⟩
theorem zPb {α:Type} (l:List α):((l.length:Int)==0)=l.isEmpty:=by
  rw [show ((l.length:Int)==0)=(l.length==0) from eqI _ 0]; cases l <;> rfl
theorem zPL (t:GTable) (l:List GField) (strict:Bool) (h:FindOK t l):zFq t l strict=some (findS t l strict):=by
  unfold zFq findS
  have hnm:=h.nm
  rw [zPb]
  cases hx:t.fAxes.isEmpty with
  | true =>
    rw [zAC,zAC,zK2 t.fEntries _ (fun e=>snapF l e.fVary==e.fSnapshot) (by omega) (fun e he=>by
      unfold zFW
      rw [zN4 _ _ l h.fl (h.vr e he).1 (h.vr e he).2]; rfl),zAA]
  | false =>
    obtain ⟨s1,s2⟩:=zPM l strict h.ax h.al
    rw [zAB,zAB,zO6 _ l strict h.ax h.fl,zAA]
    cases hb:(bestS t.fAxes l strict).2 with
    | false=>rfl
    | true =>
      rw [Bool.not_true,zAB,zAC,zK2 t.fEntries _ (fun e=>hasB t.fAxes e (bestS t.fAxes l strict).1) (by omega) (fun e he=>by
        unfold zFQ
        rw [zMw _ e _ ⟨h.al,fun a ha=>(h.ax a ha).1⟩ (h.ks e he) s1 s2]; rfl),zAA]
end Go.Eng.Pure
namespace Go.Eng.Pure
open Go Go.Eng
set_option linter.unusedVariables false
def wkX:List GAxis:=[⟨[97,99,99,101,112,116,45,108,97,110,103,117,97,103,101],[[101,110],[102,114]]⟩]
def wkE:GEntry:=⟨[[[101,110]],[[102,114]]],[],[],[],[],[49],0,0⟩
def wkF:GEntry:=⟨[[[102,114]]],[],[],[],[],[50],0,0⟩
def wkL:List GField:=[⟨[65,99,99,101,112,116,45,76,97,110,103,117,97,103,101],[101,110]⟩]
def wkT:GTable:=⟨wkX,[wkF]⟩
theorem wk1:putS ⟨[],[]⟩ wkE wkX 5=⟨wkX,[wkE]⟩:=by decide +kernel
theorem wk2:putS ⟨wkX,[wkE]⟩ wkF wkX 5=wkT:=by decide +kernel
theorem wk3:findS wkT wkL true=(-1,true):=by decide +kernel
theorem wk4:zKb wkT 5=true:=by decide +kernel
theorem zLW:kpA wkX:=zLu (by decide +kernel)
theorem zOY:smE wkE:=zKB (by decide +kernel)
theorem zOa:smE wkF:=zKB (by decide +kernel)
theorem zOq:kpT ⟨[],[]⟩:=zIc (by decide +kernel)
theorem zPJ:kpT ⟨wkX,[wkE]⟩:=zIc (by decide +kernel)
theorem zMu:kpT wkT:=zIc (by decide +kernel)
theorem zPR:smL wkL:=zLm (by decide +kernel)
theorem zO3:zF9=some true:=by
  have p1:=zOl ⟨[],[]⟩ wkE wkX 5 (zId zOq) (zIf zOY) (zIe zOY) (zJ3 zLW) (zJj zLW) (by omega)
  have p2:=zOl ⟨wkX,[wkE]⟩ wkF wkX 5 (zId zPJ) (zIf zOa) (zIe zOa) (zJ3 zLW) (zJj zLW) (by omega)
  have p3:=zPL wkT wkL true (zOP zMu zPR)
  have p4:=zJe wkT 5 (zId zMu) (zKD zMu.1)
  rw [wk1] at p1
  rw [wk2] at p2
  rw [wk3] at p3
  rw [wk4] at p4
  unfold zF9
  show (zE3 ⟨[],[]⟩ wkE wkX 5).bind _=_
  rw [p1,zAA]
  show (zE3 ⟨wkX,[wkE]⟩ wkF wkX 5).bind _=_
  rw [p2,zAA]
  show (zFq wkT wkL true).bind _=_
  rw [p3,zAA]
  show (((some true).bind fun b82=>_):Option Bool)=_
  rw [zAA]
  show ((zEA wkT 5).bind _).bind _=_
  rw [p4]; rfl
end Go.Eng.Pure
namespace Go.Eng.Pure
open Go Go.Eng
theorem zI7 (t:GTable) (i limit:Int):zEf t i limit=some true:=by
  unfold zEf
  rw [zJ1,zAA]
  cases ht:keepT t with
  | false=>rfl
  | true =>
    have hk:=zIc ht
    have hp:=zId hk
    have hA:t.fAxes.length≤1073741824:=by have:=hk.1.1; omega
    have hV:∀ a ∈ t.fAxes,a.fValues.length≤1073741824:=fun a ha=>by have:=hp.2.1 a ha; omega
    have hE:t.fEntries.length≤1073741824:=by have:=hk.2.1; omega
    have hS:∀ e ∈ t.fEntries,smEn e:=fun e he=>zIf (hk.2.2 e he)
    let l:List GEntry:=if 0≤i∧i<(t.fEntries.length:Int) then t.fEntries.take i.toNat++t.fEntries.drop (i.toNat+1) else t.fEntries
    have hl:∀ e ∈ l,e ∈ t.fEntries:=by
      intro e he
      simp only [l] at he
      split at he
      · rcases List.mem_append.1 he with he | he
        · exact List.mem_of_mem_take he
        · exact List.mem_of_mem_drop he
      · exact he
    have hll:l.length≤t.fEntries.length:=by
      simp only [l]
      split
      · rw [List.length_append,List.length_take,List.length_drop]; omega
      · exact Nat.le_refl _
    have hd:0≤i→i<(t.fEntries.length:Int)→delI t.fEntries i (wr (i+1))=some l:=by
      intro h1 h2
      obtain ⟨n,rfl⟩:=Int.eq_ofNat_of_zero_le h1
      have hw:wr ((n:Int)+1)=((n+1:Nat):Int):=by rw [zE7 (by omega) (by omega)]; rfl
      unfold delI
      rw [hw,if_pos (by omega)]
      simp only [l,Int.toNat_natCast]
      rw [if_pos ⟨h1,h2⟩]
    have h1:zFO t i=some ⟨t.fAxes,l⟩:=by
      unfold zFO zAr
      rw [zHs t hA hV hE hS,zAA]
      by_cases h:0≤i∧i<(t.fEntries.length:Int)
      · rw [decide_eq_true h.1,decide_eq_true h.2,Bool.and_self,zAC,hd h.1 h.2]; rfl
      · have hb : (decide (0 ≤ i) && decide (i < (t.fEntries.length : Int))) = false := by
          rw [← Bool.not_eq_true,Bool.and_eq_true,decide_eq_true_eq,decide_eq_true_eq]; exact h
        have e:l=t.fEntries:=if_neg h
        rw [hb,zAB,e]; rfl
    have h2:zEX t i=some ⟨t.fAxes,l⟩:=by
      unfold zEX
      rw [zOz t hA hV hE hS,zAA]
      by_cases h:0≤i∧i<(t.fEntries.length:Int)
      · rw [decide_eq_false (by omega),decide_eq_false (by omega),Bool.or_self,zAB,hd h.1 h.2]; rfl
      · have hb : (decide (i < 0) || decide ((t.fEntries.length : Int) ≤ i)) = true := by
          rw [Bool.or_eq_true,decide_eq_true_eq,decide_eq_true_eq]; omega
        have e:l=t.fEntries:=if_neg h
        rw [hb,zAC,e]
    rw [Bool.not_true,zAB,h1,zAA,h2,zAA,zMG ⟨t.fAxes,l⟩ ⟨t.fAxes,l⟩ hA hV (by show l.length≤_; omega) (fun e he=>hS e (hl e he)),zAA,decide_eq_true rfl,zAC,
      zMs t hE (fun e he=>hk.2.2 e he),zAA,zNJ t hE (fun e he=>hk.2.2 e he),zAA,beq_self_eq_true,zAA,zAC,
      zJe t limit hp (zKD hk.1),zAA,zMP t limit hp (zKD hk.1),zAA,beq_self_eq_true,zAA,zAC,zO3]
    rfl
end Go.Eng.Pure
