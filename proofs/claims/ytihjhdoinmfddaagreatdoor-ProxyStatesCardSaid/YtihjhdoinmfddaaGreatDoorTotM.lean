/- A part. -/
import Derived.Test.YtihjhdoinmfddaaGreatDoorTotG
set_option linter.unusedVariables false
set_option linter.unusedSimpArgs false
set_option maxRecDepth 100000
namespace Go.Eng.Pure
open Go Go.Eng
def noSp (s:Str):Prop:=(32:UInt8) ∉ s
theorem zYo (s:Str) (c:UInt8) (hs:s.length≤1000000):Tot (zAW s [c]) fun r=>(∀ x ∈ r.1,x ∈ s)∧(∀ x ∈ r.2.1,x ∈ s)∧(r.2.2=true→r.1.length+r.2.1.length+1=s.length)∧(r.2.2=false→r.1=s∧r.2.1=[]):=by
 grind [qQ,zHc]
theorem hexT (c:UInt8):Tot (zDV c) fun r=>-1≤r∧r<16:=by
 unfold zDV;refine qE (zBH [c] sI) ?_;have hl:(lower [c]).length=1:=by rw [zBn]; rfl
 grind [qB,xnthT,strings_IndexByte,qO,zTk,lC]
theorem zKb {a b:Str} (ha:noSp a) (hb:noSp b):noSp (a++b):=fun h=>by
 rcases List.mem_append.1 h with h | h
 ·exact ha h
 ·exact hb h
theorem normT (p:Str) (hp:p.length≤1000000):Tot (zCs p) fun r=>r.1.length≤p.length∧noSp r.1:=by
 unfold zCs;refine qE (a:=()) (by unfold xroom; grind) ?_;refine qB (qL (P:=fun r:List UInt8 ⊕ (Str×Bool)=>match r with | .inl y=>y.length≤p.length∧noSp y | .inr e=>e.1.length≤p.length∧noSp e.1) (fun st:List UInt8×Int=>0≤st.2∧st.2≤p.length∧(st.1.length:Int)≤st.2∧noSp st.1) (fun st:List UInt8×Int=>p.length - st.2.toNat) (fun st hst=>?_) _ ⟨sI,sI,sI,by simp [noSp]⟩) fun r hr=>by
  grind [qO]
 obtain ⟨o,y⟩:=st;obtain ⟨a1,a2,a3,a4⟩:=hst;simp only [] at a1 a2 a3 a4;unfold zGN;refine qC (fun h2=>?_) fun _=>qS ⟨om,a4⟩
 have h2:=dT h2;refine qE (zDr (l:=p) (i:=y) a1 om) ?_;have bad:Tot (some (.inr (.inr (([]:List UInt8),false))):Option ((List UInt8×Int) ⊕ (List UInt8 ⊕ (Str×Bool)))) fun x=>(∃ s',x=.inl s'∧(fun st:List UInt8×Int=>0≤st.2∧st.2≤p.length∧(st.1.length:Int)≤st.2∧noSp st.1) s'∧(fun st:List UInt8×Int=>p.length - st.2.toNat) s'<(fun st:List UInt8×Int=>p.length - st.2.toNat) (o,y))∨∃ r,x=.inr r∧(fun r:List UInt8 ⊕ (Str×Bool)=>match r with | .inl y=>y.length≤p.length∧noSp y | .inr e=>e.1.length≤p.length∧noSp e.1) r:=qS ⟨sI,by simp [noSp]⟩
 refine qB (Q:=fun b=>b=false→¬ p[y.toNat]'om<33) (qC (fun _=>qO sI) fun h=>?_) fun b hb=>?_
 ·grind [qB,xnthT,qO]
 refine qB (Q:=fun b'=>b'=false→b=false) (qC (fun _=>qO sI) fun h=>?_) fun b' hb'=>?_
 ·grind [qB,xnthT,qO]
 refine qC (fun _=>bad) fun h3=>?_
 have h33:=hb (hb' h3);refine qE (zDr (l:=p) (i:=y) a1 om) ?_;generalize hc:p[y.toNat]'om=c at *
 have hc32:c≠32:=fun e=>by grind
 refine qC (fun _=>?_) fun _=>?_
 ·refine qE (zDr (l:=p) (i:=y) a1 om) ?_
  rw [hc];refine qB (xappT gR) fun z e=>?_
  subst e;rw [wrI om om];exact qN ⟨om,om,by simp; omega,zKb a4 (by simp [noSp]; grind)⟩ om
 have w2:wr (y+2)=y+2:=wrI om om;have w1:wr (y+1)=y+1:=wrI om om;rw [w1,w2];refine qB (Q:=fun b=>b=false→y+2<p.length∧∀ r,zDV (p.getD (y+1).toNat 0)=some r→0≤r) (qC (fun _=>qO sI) fun h=>?_) fun b1 hb1=>?_
 ·have h:=dF h
  refine qE (zDr (l:=p) (i:=y+1) om om) ?_;obtain ⟨r,e,hr⟩:=hexT (p[(y+1).toNat]'om)
  grind [qO]
 refine qB (Q:=fun b=>b=false→b1=false∧∀ r,zDV (p.getD (y+2).toNat 0)=some r→0≤r) (qC (fun _=>qO sI) fun h=>?_) fun b2 hb2=>?_
 ·have h3:=(hb1 h).1
  refine qE (zDr (l:=p) (i:=y+2) om om) ?_;obtain ⟨r,e,hr⟩:=hexT (p[(y+2).toNat]'om)
  grind [qO]
 refine qC (fun _=>bad) fun h4=>?_
 obtain ⟨h5,h6⟩:=hb2 h4;obtain ⟨h7,h8⟩:=hb1 h5;have g1:p.getD (y+1).toNat 0=p[(y+1).toNat]'(by omega):=by grind
 have g2:p.getD (y+2).toNat 0=p[(y+2).toNat]'(by omega):=by grind
 refine qE (zDr (l:=p) (i:=y+1) om om) ?_;obtain ⟨r,e,hr⟩:=hexT (p[(y+1).toNat]'om);refine qE e ?_;have hr0:=h8 r (by rw [g1]; exact e);refine qE (zDr (l:=p) (i:=y+2) om om) ?_;obtain ⟨r',e',hr'⟩:=hexT (p[(y+2).toNat]'om);refine qE e' ?_;have hr'0:=h6 r' (by rw [g2]; exact e');generalize toU8 (wr (wr (16*r)+r'))=u;unfold zCc;refine qR ?_;refine qB (Q:=fun b=>b=true→u≠32) (qC (fun h=>qO fun _ e=>?_) fun _=>?_) fun b3 hb3=>?_
 ·grind
 ·unfold strings_IndexByte
  refine qR (qO fun h e=>?_);subst e; revert h; decide
 have w3:wr (y+2+1)=y+3:=by grind [wrI]
 rw [w3];refine qC (fun h=>?_) fun _=>?_
 ·have hu:=hb3 h
  refine qB (xappT gR) fun z e=>?_
  subst e;exact qN ⟨om,om,by simp; omega,zKb a4 (by simp [noSp]; grind)⟩ om
 ·have hx:∀ i:Int,0≤i→i<16→Tot (xnth ([48,49,50,51,52,53,54,55,56,57,65,66,67,68,69,70]:Str) i) fun c=>c≠32:=fun i h0 h1=>(xnthT h0 (by simp_all)).mono fun c hc e=>by simp_all
  refine qB (hx r hr0 hr.2) fun c1 hc1=>?_
  refine qB (hx r' hr'0 hr'.2) fun c2 hc2=>?_
  refine qB (xappT gR) fun z e=>?_
  subst e;refine qN ⟨by simp only []; omega,by simp only []; omega,by simp; omega,zKb a4 (fun h=>?_)⟩ (by simp only []; omega)
  grind
theorem hpfT (s p:Str):zAj s p=some (p.isPrefixOf s):=by
 grind [zAj,Etag.HasPrefix_eq]
theorem autT (s:Str) (hs:s.length≤1000000):Tot (zDs s) fun r=>r.1.length≤s.length∧0≤r.2.1∧r.2.1≤2147483647:=by
 unfold zDs;refine qB (cutT s 58 hs) fun r1 h1=>?_
 refine qB (Q:=fun x:Unit ⊕ (Str×Int×Bool)=>∀ e,x=.inr e→e.1.length≤s.length∧0≤e.2.1∧e.2.1≤2147483647) (qL (fun i:Int=>0≤i∧i≤r1.1.length) (fun i=>r1.1.length - i.toNat) (fun i hi=>?_) 0 ⟨om,om⟩) fun r hr=>?_
 ·unfold zGR
  refine qC (fun h=>?_) fun h=>qS (fun e he=>by cases he)
  have h:=dT h;refine qB (xnthT om om) fun x _=>?_
  refine qB (o:=zGT x) (Q:=Any) (qO trivial) fun _ _=>?_ <;> grind [qO,wrI]
 grind [qO,zFb,zBH,zBn]
theorem zUV (sep:Str) (l:List Str):(Lib.joinTail sep l).length=(l.map fun x=>x.length+sep.length).sum:=by
 unfold Lib.joinTail
 induction l <;> grind
theorem zSv (l:List Str):(Lib.join l [47]).length≤sumN l:=by
 cases l <;> grind [Lib.join_nil,Lib.join_cons,zUV,sumN]
theorem zW7 (l:List Str) (h:∀ x ∈ l,noSp x):noSp (Lib.join l [47]):=by
 cases l <;> grind [Lib.join_nil,noSp,Lib.join_cons,lS,Lib.joinTail]
theorem zOA (a b:List Str):sumN (a++b)=sumN a+sumN b:=by unfold sumN; simp
theorem zOd:∀ (l:List Str) (n:Nat),sumN (l.take n)≤sumN l
 | [],n=>by simp
 | p :: l,0=>by simp [sumN]
 | p :: l,n+1=>by
  have:=zOd l n;unfold sumN at this ⊢;simp only [List.take_succ_cons,List.map_cons,List.sum_cons];omega
theorem zLl:∀ l:List Str,l.length≤sumN l
 | []=>by simp [sumN]
 | a :: l=>by
  have:=zLl l;unfold sumN at this ⊢;rw [List.map_cons,List.sum_cons,lC]; omega
theorem segT (p:Str) (hp:p.length≤900000) (hs:noSp p):Tot (zEQ p) fun r=>r.length≤p.length+2∧noSp r:=by
 unfold zEQ;rw [hpfT,zAA];refine qC (fun _=>qO ⟨om,hs⟩) fun h=>?_
 have h:1≤p.length:=by
  grind
 refine qB (xsubT ⟨om,om,om⟩) fun s hs1=>?_
 have hs2:noSp s:=by
  rw [hs1.2];exact fun hm=>hs (List.mem_of_mem_take (List.mem_of_mem_drop hm))
 have hl:=hs1.1;refine qB (qL (P:=fun r:List Str=>sumN r≤p.length+1∧∀ x ∈ r,noSp x) (fun st:List Str×Str×Bool=>sumN st.1+(if st.2.2 then st.2.1.length+1 else 0)≤p.length+1∧(∀ x ∈ st.1,noSp x)∧noSp st.2.1) (fun st:List Str×Str×Bool=>if st.2.2 then st.2.1.length+1 else 0) (fun st hst=>?_) ([],s,true) ⟨by simp [sumN]; omega,sI,hs2⟩) fun r hr=>?_
 ·obtain ⟨o,re,m⟩:=st
  obtain ⟨a1,a2,a3⟩:=hst;simp only [] at a1 a2 a3;unfold zGi;refine qC (fun hm=>?_) fun hm=>qS ⟨om,a2⟩
  subst hm;rw [if_pos rfl] at a1;have hlen:=zLl o;refine qB (zYo re 47 om) fun r hr=>?_
  obtain ⟨c1,c2,c3,c4⟩:=hr;have n1:noSp r.1:=fun h=>a3 (c1 _ h)
  have n2:noSp r.2.1:=fun h=>a3 (c2 _ h)
  have hle:r.1.length+1+(if r.2.2 then r.2.1.length+1 else 0)≤re.length+1:=by
   grind
  have hap:∀ (o:List Str) (x:Str),(∀ y ∈ o,noSp y)→noSp x→∀ y ∈ o++[x],noSp y:=fun o x h1 h2 y hy=>by
   grind
  have e0:noSp []:=by simp [noSp]
  have s1:∀ x:Str,sumN [x]=x.length+1:=fun x=>by simp [sumN]
  have mlt:(if r.2.2 then r.2.1.length+1 else 0)<re.length+1:=by omega
  refine qC (fun _=>qN ⟨by simp only []; omega,a2,n2⟩ gR) fun _=>?_
  refine qC (fun h2=>?_) fun _=>?_
  ·have h2:r.1=[46,46]:=by simpa using h2
   rw [h2] at hle;simp only [lC,List.length_nil] at hle;rw [wrI om om];refine qB (xsubT ⟨om,by split <;> omega,by split <;> omega⟩) fun q hq=>?_
   have q1:sumN q≤sumN o:=by
    rw [hq.2]; simp only [Int.toNat_zero,List.drop_zero]; exact zOd _ _
   have q2:∀ x ∈ q,noSp x:=fun x hx=>by
    rw [hq.2] at hx;exact a2 x (List.mem_of_mem_take (List.mem_of_mem_drop hx))
   have q3:=zLl q;refine qC (fun _=>qN ⟨by simp only []; omega,q2,n2⟩ (by simp only [if_true]; exact mlt)) fun _=>?_
   refine qB (xappT (by simp only [List.length_singleton]; omega)) fun z e=>?_
   subst e;refine qN ⟨?_,hap q _ q2 e0,n2⟩ (by simp only [if_true]; exact mlt) <;> grind [zOA]
  ·refine qC (fun h2=>?_) fun _=>?_
   ·refine qB (xappT (by simp only [List.length_singleton]; omega)) fun z e=>?_
    subst e;refine qN ⟨?_,hap o _ a2 e0,n2⟩ (by simp only [if_true]; exact mlt) <;> grind [zOA]
   ·refine qB (xappT (by simp only [List.length_singleton]; omega)) fun z e=>?_
    subst e;refine qN ⟨?_,hap o _ a2 n1,n2⟩ (by simp only [if_true]; exact mlt) <;> grind [zOA]
 grind [zSv,zLl,strings_Join,jo,big,qB,xcatT,qO,noSp,zW7]
def uOK (B:Nat) (u:GURI):Prop:=u.fHost.length≤B∧0≤u.fPort∧u.fPort≤2147483647∧u.fPath.length≤B∧noSp u.fPath∧u.fQuery.length≤B∧noSp u.fQuery
theorem uZ (B:Nat):uOK B ⟨[],0,[],[],false⟩:=⟨sI,sI,sI,sI,by simp [noSp],sI,by simp [noSp]⟩
theorem absT (s:Str) (hs:s.length≤1000000):Tot (zC6 s) fun b=>b=true→7≤s.length:=by
 unfold zC6;refine qB (Q:=fun b=>b=true→7≤s.length) (qC (fun h=>?_) fun _=>qO sI) fun b hb=>qO hb
 have h:=dT h;refine qB (xsubT ⟨om,om,om⟩) fun x hx=>?_
 exact qB (foldK _ _ (by have:=hx.1; omega) dE) fun _ _=>qO fun _=>by omega
theorem zUA (t h:Str) (B:Nat) (hB:B≤100000) (ht:t.length≤B) (hh:h.length≤B):Tot (zFc t h) fun r=>uOK (B+3) r.1:=by
 unfold zFc;refine qB (Q:=fun j:(Str×Str) ⊕ (GURI×Int)=>match j with | .inl x=>x.1.length≤B∧x.2.length≤B | .inr e=>uOK (B+3) e.1) ?_ fun j hj=>?_
 ·refine qB (absT t om) fun b hb=>?_
  refine qC (fun h1=>?_) fun _=>?_
  ·have hb:=hb h1
   refine qB (xsubT ⟨om,om,om⟩) fun s hs=>?_
   have hs:=hs.1;refine qB (o:=zAh s [47,63]) (Q:=fun r=>-1≤r∧r<s.length) ?_ fun r hr=>?_ <;> grind [qB,zAh,qO,zWO,xsubT]
  grind [hpfT,qO,uZ]
 ·rcases j with x | e
  ·obtain ⟨x1,x2⟩:=hj
   refine qB (cutT x.1 63 om) fun r hr=>?_
   refine qB (normT r.1 om) fun a ha=>?_
   refine qB (normT r.2.1 om) fun b hb=>?_
   refine qC (fun _=>qO (uZ _)) fun _=>?_
   refine qB (Q:=fun p:Str=>p.length≤B+1∧noSp p) (qC (fun _=>qO ⟨sI,by simp [noSp]⟩) fun _=>qO ⟨om,ha.2⟩) fun p hp=>?_
   refine qB (autT x.2 om) fun c hc=>?_
   refine qC (fun _=>qO (uZ _)) fun _=>?_
   refine qB (segT p om hp.2) fun s hs=>qO ?_
   refine ⟨by simp only []; omega,hc.2.1,hc.2.2,gR,hs.2,by simp only []; omega,hb.2⟩
  ·exact qO hj
theorem preqT (m t:Str) (hm:noSp m) (ht:noSp t) (lm:m.length≤100000) (lt:t.length≤100000):Tot (zAf (m++32 :: (t++32 :: [72,84,84,80,47,49,46,49]))) Any:=by
 unfold zAf;refine qC (fun _=>qO trivial) fun _=>?_
 refine qE (zSl m _ 32 hm (by simp; omega)) ?_;refine qE (zSl t _ 32 ht (by simp; omega)) ?_
 grind [zBf,qB,qO,zRP,zTO]
theorem frqLT (m t:Str) (hm:noSp m) (ht:noSp t) (lm:m.length≤50000) (lt:t.length≤50000):Tot (zBq m t 1) fun s=>s.length≤150000:=by
 unfold zBq;refine qB (xcatT gR) fun s1 e1=>?_
 have l1:s1.length=m.length+1:=by grind
 refine qB (xcatT om) fun s2 e2=>?_
 have l2:s2.length=m.length+1+t.length:=by grind
 refine qB (xcatT (by grind [lC])) fun s3 e3=>?_
 have l3:s3.length=m.length+1+t.length+8:=by rw [e3,lA,l2]; rfl
 refine qE (a:=[49]) (by grind [strconv_Itoa,itoa1]) ?_;refine qB (xcatT gR) fun s9 e9=>?_
 have l9:s9.length=m.length+1+t.length+9:=by grind
 have e:s9=m++32 :: (t++32 :: [72,84,84,80,47,49,46,49]):=by
  simp_all
 grind [qB,preqT,qO]
theorem frqT (q:GRequest) (h1:q.fMinor=1) (hm:noSp q.fMethod) (ht:noSp q.fTarget) (lm:q.fMethod.length≤50000) (lt:q.fTarget.length≤50000) (hf:smT q.fFields):Tot (zB8 q) Any:=by
 grind [zB8,qO,qB,frqLT,zS0]
theorem decAT (n:Int) (h0:0≤n) (h1:n≤2147483647):Tot (zBa n) fun s=>s.length≤21:=by grind [qQ,zGH,zGs]
theorem authT (B:Nat) (hB:B≤10000) (u:GURI) (h:uOK B u):Tot (zCp u) fun s=>s.length≤B+22:=by
 obtain ⟨h1,h2,h3,h4,h5,h6,h7⟩:=h
 grind [zCp,qO,qB,xcatT,lA,decAT]
theorem keyT (B:Nat) (hB:B≤10000) (u:GURI) (h:uOK B u):Tot (zGG u) fun s=>s.length≤100000:=by
 have ha:=authT B hB u h;obtain ⟨h1,h2,h3,h4,h5,h6,h7⟩:=h;unfold zGG;refine qB ha fun a ha=>?_
 refine qB (xcatT (by grind [lC])) fun s e=>?_
 grind [qB,xcatT,qO]
theorem zV5 (B:Nat) (hB:B≤5000) (u:GURI) (r:Str) (h:uOK B u) (hr:r.length≤B):Tot (zFJ u r) fun x=>uOK (B+25) x.1:=by
 unfold zFJ;refine qB (absT r om) fun b _=>?_
 refine qB (Q:=Any) (qC (fun _=>?_) fun _=>qO trivial) fun b _=>?_
 ·grind [hpfT,qO]
 refine qC (fun _=>qO (uZ _)) fun _=>?_
 refine qB (authT B om u h) fun a ha=>?_
 exact qB (zUA r a (B+22) om om om) fun x hx=>qO hx
theorem zOp (B : Nat) (hB : B ≤ 5000) (u : GURI) (r : GResponse) (n : Str) (l : List Str) (k : List Str → Option (List Str)) (P : List Str → Prop) (h : uOK B u) (hr : smW 64 B r.fFields) (hn : n.length ≤ 1000) (hl : l.length ≤ 1000)
    (hk:∀ l',l'.length≤l.length+1→Tot (k l') P):Tot (zDz u r n l k) P:=by
  unfold zDz;have hf:=smW_F hr om;refine qE (zJD _ n (by have:=hr.1; omega) hf om) ?_;have hv:(zFn r.fFields n).1.length≤B:=by
    unfold zFn;split
    · rename_i v _ e
      have:=zGJ r.fFields n B (fun f hf=>(hr.2 f hf).2) v gR;exact this
    · simp
  refine qB (zV5 B hB u _ h hv) fun x hx=>?_
  refine qB (keyT (B+25) om x.1 hx) fun key hkey=>?_
  grind [qB,zL8,xappT]
theorem zV3 (B:Nat) (hB:B≤5000) (u:GURI) (r:GResponse) (h:uOK B u) (hr:smW 64 B r.fFields):Tot (zFD u r) fun l=>l.length≤3:=by
 unfold zFD;refine qB (keyT B om u h) fun key hkey=>?_
 refine zOp B hB u r _ _ _ _ h hr dE sI fun l hl=>?_
 refine zOp B hB u r _ _ _ _ h hr dE (by simp at hl; omega) fun l' hl'=>qO ?_
 grind
theorem zW1 (s:Str):(Etag.parseSpec s).1.fTag.length≤s.length:=by
 have key:∀ (w:Bool) (t:Str),(Etag.tagOf w t).1.fTag.length≤t.length:=fun w t=>by
  unfold Etag.tagOf;cases h:Etag.inner t with
  | none=>simp
  | some x =>
   cases t <;> grind [Etag.inner]
 grind [Etag.parseSpec]
theorem zYF (e:GETag) (h:e.fTag.length≤9000):Tot (zHa e) fun s=>s.length≤e.fTag.length+4:=by
 unfold zHa;refine qE (Etag.permitted_eq e.fTag (by simp only [big]; omega)) ?_
 grind [qO,qB,xcatT]
theorem zPk (q:GRequest) (e:GEntry) (hq:smW 64 5000 q.fFields) (he:smT e.fFields) (hv:∀ f ∈ e.fFields,f.fValue.length≤5000):Tot (zCO q e) fun r=>r.fMethod=q.fMethod∧r.fMinor=q.fMinor∧smW 66 10000 r.fFields:=by
 unfold zCO;refine qB (zRD _ _ (smW_T hq om om) dE dE) fun l hl=>?_
 have hl2:smW 64 10000 l:=⟨(hl.W hq).1,fun f hf=>zLP ((hl.W hq).2 f hf) om⟩;refine qE (Etag.Of_eq _ (smT_F he).1 (smT_F he).2) ?_;refine qB (Q:=fun l=>smW 65 10000 l) (qC (fun hb=>?_) fun _=>qO (zLO hl2 om)) fun l1 hl1=>?_
 ·have ht : (Etag.ofF e.fFields).1.fTag.length ≤ 5000 := by
   unfold Etag.ofF;split
   ·rename_i v _ e2
    have h1:=zGJ _ _ 5000 (fun f hf=>hv f hf) v (by rw [e2]; exact lS)
    grind [zW1]
   ·simp
  refine qB (zYF _ om) fun s hs=>?_
  refine qB (xappT (by have:=hl2.1; grind)) fun z e=>qO ?_
  rw [e];exact zK3 hl2 ⟨sI,by simp only []; omega⟩
 refine qB (zS2 _ _ he dE) fun d hd=>?_
 refine qB (Q:=fun l=>smW 66 10000 l) (qC (fun _=>?_) fun _=>qO (zLO hl1 om)) fun l2 hl2=>qO ⟨rfl,rfl,hl2⟩
 refine qB (xappT (by have:=hl1.1; grind)) fun z e=>qO ?_
 rw [e];refine zK3 hl1 ⟨sI,?_⟩;simp only [];rw [hd];unfold zFn;split
 ·rename_i v _ e2
  have:=zGJ _ _ 5000 (fun f hf=>hv f hf) v (by rw [e2]; grind);simp only []; omega
 ·simp
theorem zYw (axes:List GAxis) (a b:List Str) (h:smAx axes) (ha:smKy a) (hb:smKy b):Tot (zC9 axes a b) Any:=by
 unfold zC9 zAp;refine qC (fun _=>qO trivial) fun h1=>qB (Q:=Any) (qC (fun _=>qO trivial) fun h2=>qB (Q:=Any) (qF a.length (fun n s=>s=((n:Int),(n:Int) - 1)) ?_ rfl) fun r _=>by cases r <;> exact qO trivial) fun _ _=>qO trivial
 have e1:a.length=axes.length:=by simp at h1; omega
 have e2:a.length=b.length:=by simp at h2; omega
 have h3:=h.1;rintro n _ hn rfl;refine qC (fun h3=>?_) fun _=>qO trivial
 have hlt:n<a.length:=by simpa using h3
 refine qE (zAF hlt) (qE (zAF (show n<b.length by omega)) (qB (Q:=fun r=>r.2=(n:Int)) ?_ fun r hr=>?_))
 ·unfold zDd
  rw [wrI om om,Int.sub_add_cancel];exact qE (zAF (show n<axes.length by omega)) (qE (zRZ _ _ _ (by have:=h.2 _ (lM (show n<axes.length by omega)); omega) (ha _ (lM _)) (hb _ (lM _))) (qO rfl))
 grind [qO,wrs]
theorem hasAT (l:List (List Str)) (p:List Str→Option Bool) (hl:l.length≤1000000) (hp:∀ x ∈ l,Tot (p x) Any):Tot (zAL l p) Any :=
 qB (ixT l p om hp) fun _ _=>qO trivial
theorem KHasT (axes:List GAxis) (e:GEntry) (key:List Str) (h:smAx axes) (he:smKs e.fKeys) (hk2:smKy key):Tot (zKH axes e key) Any :=
 qB (hasAT _ _ he.1 fun k hm=>qB (zYw axes k key h (he.2 k hm).2 hk2) fun _ _=>qO trivial) fun _ _=>qO trivial
theorem lastT (l:List GEntry) (p:GEntry→Option Bool) (hl:l.length≤1000000) (hp:∀ x ∈ l,Tot (p x) Any):Tot (zI7 l p) fun r=>r<l.length:=by
 unfold zI7;refine qB (Q:=fun r:Unit ⊕ Int=>match r with | .inr e=>e<l.length | .inl _=>True) (qF l.length (fun n s=>s=(l.length:Int) - 1 - n) ?_ (by rw [wrI om om]; simp)) fun r hr=>?_
 ·rintro n _ hn rfl
  refine qC (fun h=>?_) fun _=>qO trivial
  have h:=dT h;refine qB (xnthT h om) fun x hx=>qB (hp x hx) fun b _=>qC (fun _=>qO om) fun _=>qO ⟨om,?_⟩
  rw [wrI om om]; omega
 grind [qO]
theorem qvalT (s:Str):Tot (zGw s) Any:=by
 unfold zGw;refine qB (Q:=fun b=>b=false→1≤s.length∧s.length≤5) (qC (fun _=>qO sI) fun h=>?_) fun b hb=>?_
 ·have h:1≤s.length∧s.length≤5:=by cases s <;> simp at h ⊢; omega
  exact qB (xnthT om om) fun _ _=>qB (Q:=Any) (qC (fun _=>qB (xnthT om om) fun _ _=>qO trivial) fun _=>qO trivial) fun _ _=>qO fun _=>h
 refine qB (Q:=fun b=>b=false→1≤s.length∧s.length≤5) (qC (fun _=>qO sI) fun h=>?_) fun b hb=>qC (fun _=>qO trivial) fun h=>?_
 ·exact qB (Q:=Any) (qC (fun h=>qB (xnthT om (by simpa using h)) fun _ _=>qO trivial) fun _=>qO trivial) fun _ _=>qO fun _=>hb h
 have h:=hb h;refine qB (xsubT ⟨om,om,by simp; omega⟩) fun l hl=>qB (Q:=Any) (qF l.length (fun n s=>s.2=(n:Int)) ?_ rfl) fun r _=>?_
 ·rintro n ⟨y,_⟩ hn rfl
  refine qC (fun h2=>?_) fun _=>qO trivial
  have h2:n<l.length:=by simpa using h2
  have h3:n<s.length:=by omega
  have e:wr ((n:Int)+1)=(n+1:Nat):=by rw [wrs (by omega)]
  refine qE (zAF h2) (qC (fun _=>qO ⟨h2,e⟩) fun _=>qE (zAF h3) (qB (Q:=Any) (qC (fun _=>qO trivial) fun _=>qE (zAF h3) (qO trivial)) fun _ _=>qC (fun _=>qO trivial) fun _=>qE (zAF h3) (qO ⟨h2,e⟩)))
 grind [qO]
theorem zX0 (k:Int) (m:Str) (n:Nat) (h:m.length≤10000):(rngS k (parS m).1 ((parS m).2.1.take n)).1.length≤1000000:=by
 grind [zOL,zPL,zVS,zKF,zXs,zKU,rngS,wrtT,wrtP]
theorem zYt (k:Int) (m:Str) (h:m.length≤10000):Tot (zHx k m) fun r=>r.1.fRange.length≤1000000:=by
 obtain ⟨h1,h2⟩:=zYs h;have h0:=h2.1;unfold zHx;refine qE (zO4 m om) (qC (fun _=>qO sI) fun _=>qB (ixT _ _ om fun _ _=>qO trivial) fun i hi=>?_);refine qB (Q:=fun j:((List GParam)×Int) ⊕ (GPref×Bool)=>match j with | .inl s=>∃ n,s.1=(parS m).2.1.take n | .inr r=>r.1.fRange.length≤1000000) (qC (fun h3=>?_) fun _=>qO ⟨_,(List.take_length).symm⟩) fun j hj=>?_
 ·grind [qB,xnthT,qvalT,qO,xsubT]
 ·cases j with
  | inr e=>exact qO hj
  | inl s =>
   obtain ⟨n,e⟩:=hj;obtain ⟨ps,q⟩:=s;simp only at e;subst e;exact qE (zTU k _ _ h1 ⟨gR,fun p hp=>h2.2 p (List.mem_of_mem_take hp)⟩) (qO (zX0 k m n h))
theorem zYr (k:Int) (l:List GField) (hl:smL l):Tot (zGq k l) fun r=>smPr r.1:=by
 obtain ⟨b1,b2⟩:=zUu hl;have hn:=zUq k;have hm:=zGx l (nameF k);have hs:=zHn l (nameF k) 10000 fun f hf=>(hl.2 f hf).2
 unfold zGq;refine qE (zYB k) (qB (Q:=Any) (qC (fun _=>qO trivial) fun _=>qE (zIS l _ b1 b2 om) (qO trivial)) fun _ _=>qC (fun _=>qO ⟨sI,sI⟩) fun _=>qE (zIH l _ b1 b2 om) ?_);refine qB (qF (allM l (nameF k)).length (fun n s=>s.2=(n:Int)∧s.1.length≤n∧∀ p ∈ s.1,p.fRange.length≤1000000) ?_ ⟨rfl,sI,sI⟩) fun r hr=>qO hr
 rintro n ⟨o,_⟩ hn ⟨rfl,h1,h2⟩;refine qC (fun h3=>?_) fun _=>qO ⟨nT h1 om,h2⟩
 have h3:n<(allM l (nameF k)).length:=by simpa using h3
 have e:wr ((n:Int)+1)=(n+1:Nat):=by rw [wrs (by omega)]
 refine qE (zAF h3) (qB (zYt k _ (hs _ (lM h3))) fun r hr=>qC (fun _=>?_) fun _=>qO ⟨h3,e,Nat.le_succ_of_le h1,h2⟩) <;> grind [qB,qO,xappT]
theorem zXv (r t:Str) (hr:r.length≤1000000) (ht:t.length≤1000000):Tot (zE9 r t) Any:=by
 unfold zE9 zCL zAj zCe;refine qB (Q:=Any) (qB (Q:=Any) (qC (fun _=>qO trivial) fun _=>qE (zRR r hr) (qO trivial)) fun _ _=>qO trivial) fun _ _=>qB (Q:=Any) (qC (fun _=>qO trivial) fun _=>qE (zRR t ht) (qO trivial)) fun _ _=>qC (fun _=>qO trivial) fun _=>qC (fun _=>qO trivial) fun _=>?_
 refine qE (zBH _ om) (qB (xcatT (by rw [zBn]; simp; omega)) fun _ _=>qE (zBH _ om) (qB (xcatT (by rw [zBn]; simp; omega)) fun _ _=>?_));rw [Etag.HasPrefix_eq];exact qC (fun _=>qO trivial) fun _=>qO trivial
theorem zXM (r t:GMediaType) (hr:smPv r.fParams) (ht:smPv t.fParams):Tot (zEY r t) Any:=by
 have h1:=hr.1;have h2:=ht.1;unfold zEY zGg zEm zFS;refine qC (fun _=>qO trivial) fun _=>qC (fun _=>qO trivial) fun _=>qC (fun _=>qO trivial) fun _=>qB (Q:=Any) (qH om trivial fun n hn=>?_) fun r _=>by grind [qO]
 refine qB (Q:=Any) (qB (Q:=Any) (qH om trivial fun m hm=>qB (Q:=Any) (qC (fun _=>qE (zHo _ _ ?_ ?_) (qO trivial)) fun _=>qO trivial) fun b _=>qC (fun _=>qO trivial) fun _=>qO rfl) fun r _=>by grind [qO]) fun b _=>qC (fun _=>qO trivial) fun _=>qO rfl
 ·have:=ht.2 _ (lM hm); omega
 ·have:=hr.2 _ (lM hn); omega
theorem zXF (k:Int) (r v:Str) (hr:r.length≤1000000) (hv:v.length≤1000000):Tot (zGd k r v) Any:=by
 unfold zGd zIO;refine qB (Q:=Any) ?_ fun j _=>by grind [qO]
 refine qC (fun _=>qE (zMf r hr) (qE (zRr v hv) (qC (fun _=>qO trivial) fun _=>qB (zXM _ _ (zW4 hr) (zY5 hv)) fun _ _=>qO trivial))) fun _=>?_
 refine qC (fun _=>qB (zXv r v hr hv) fun _ _=>qO trivial) fun _=>qB (Q:=Any) (qC (fun _=>qO trivial) fun _=>qO trivial) fun _ _=>qC (fun _=>?_) fun _=>qO trivial
 refine qE (zBf r om) (qB (Q:=Any) (qC (fun _=>qO trivial) fun _=>qE (zBf v om) (qO trivial)) fun _ _=>qC (fun _=>qO trivial) fun _=>qB (Q:=Any) (qC (fun _=>qO trivial) fun _=>qE (zQf _ _ om) (qE (zQf _ _ om) (qC (fun _=>qO trivial) fun _=>qO trivial))) fun _ _=>qO trivial)
theorem qualT (k:Int) (l:List GPref) (pr:Bool) (v:Str) (h:smPr l) (hv:v.length≤1000000):Tot (zFd k l pr v) Any:=by
 have hl:=h.1;unfold zFd;refine qC (fun _=>qO trivial) fun _=>qB (Q:=Any) (qF l.length (fun n s=>s.2.2=(n:Int)) ?_ rfl) fun r _=>?_
 ·rintro n ⟨a,b,_⟩ hn rfl
  refine qC (fun h3=>?_) fun _=>qO trivial
  have h3:n<l.length:=by simpa using h3
  have e:wr ((n:Int)+1)=(n+1:Nat):=by rw [wrs (by omega)]
  exact qE (zAF h3) (qB (zXF k _ v (h.2 _ (lM h3)) hv) fun _ _=>qC (fun _=>qO ⟨h3,e⟩) fun _=>qO ⟨h3,e⟩)
 ·exact qB (Q:=Any) (qC (fun _=>qE (zHo _ _ om dE) (qO trivial)) fun _=>qO trivial) fun _ _=>qC (fun _=>qO trivial) fun _=>qO trivial
theorem rankT (k:Int) (l:List GPref) (pr:Bool) (vs:List Str) (h:smPr l) (hv:vs.length≤100000) (hs:∀ v ∈ vs,v.length≤1000000):Tot (zIR k l pr vs) fun r=>r.length≤vs.length∧∀ v ∈ r,v ∈ vs:=by
 unfold zIR;refine qB (qF vs.length (fun n s=>s.2.2=(n:Int)∧s.1.length≤n∧s.2.1.length=s.1.length∧∀ v ∈ s.1,v ∈ vs) ?_ ⟨rfl,sI,rfl,sI⟩) fun r hr=>qO hr
 rintro n ⟨o,q,_⟩ hn ⟨rfl,h1,h2,h3⟩;simp only at h1 h2 h3;refine qC (fun h4=>?_) fun _=>qO ⟨om,h3⟩
 have h4:n<vs.length:=by simpa using h4
 have e:wr ((n:Int)+1)=(n+1:Nat):=by rw [wrs (by omega)]
 refine qE (zAF h4) (qB (qualT k l pr _ h (hs _ (lM h4))) fun x _=>qC (fun _=>qO ⟨h4,e,Nat.le_succ_of_le h1,h2,h3⟩) fun _=>?_);refine qB (Q:=fun a:Int=>∃ m:Nat,a=m∧m≤o.length) (qF q.length (fun m a=>a=(q.length:Int) - m) ?_ sI) fun a ha=>?_
 ·rintro m _ hm rfl
  refine qB (Q:=fun b=>b=true→m<q.length) (qC (fun h5=>?_) fun _=>qO sI) fun b hb=>qC (fun h5=>qO ⟨hb h5,by rw [wrI om om]; omega⟩) fun _=>qO ⟨q.length - m,om,om⟩
  have h5:=dT h5;rw [wrI om om];exact qB (xnthT om om) fun _ _=>qO fun _=>by omega
 grind [zQx,qO]
theorem zXC (a:GAxis) (l:List GField) (strict:Bool) (ha:smA a) (hl:smL l):Tot (zCm a l strict) fun r=>r.length≤16∧∀ v ∈ r,v.length≤1000000:=by
 have hn:=ha.1;obtain ⟨b1,b2⟩:=zUu hl;obtain ⟨j1,j2⟩:=zRd hl a.fName;unfold zCm;refine qE (zIK [a] fun x hx=>by grind) (qC (fun _=>qO sI) fun hv=>?_);rw [zX6] at hv;obtain ⟨v1,v2,_⟩:=zVO (show axN a=true by simpa using hv);refine qE (zP5 _ om) (qB (Q:=fun r:List Str=>r.length≤16∧∀ v ∈ r,v ∈ a.fValues) (qC (fun _=>?_) fun _=>?_) fun r hr=>?_)
 ·exact qB (zYr _ l hl) fun p hp=>qB (rankT _ _ _ _ hp om ha.2) fun r hr=>qO ⟨om,hr.2⟩
 ·refine qE (zIH l _ b1 b2 om) (qE (zTb _ om om) (qE (zL8 _ _ om) (qC (fun h=>qO ⟨sI,fun v hv=>?_⟩) fun _=>qO sI)))
  grind
 ·exact qB (Q:=fun r:List Str=>r.length≤16∧∀ v ∈ r,v ∈ a.fValues) (qC (fun _=>qB (xnthT om om) fun x hx=>qO ⟨sI,fun v hv=>gR⟩) fun _=>qO hr) fun r hr=>qO ⟨hr.1,fun v hv=>ha.2 v (hr.2 v hv)⟩
theorem bestT (axes:List GAxis) (l:List GField) (strict:Bool) (ha:∀ a ∈ axes,smA a) (hl:smL l):Tot (zFE axes l strict) fun r=>smKy r.1:=by
 unfold zFE zFC;refine qB (Q:=fun r:List (List Str)=>∀ k ∈ r,smKy k) (qE (zIK axes ha) (qC (fun _=>qO sI) fun hv=>?_)) fun r hr=>qC (fun _=>qO (by simp [smKy])) fun h=>qB (xnthT om gR) fun k hk=>qO (hr k hk)
 obtain ⟨n1,n2⟩:=zVw (show valB axes=true by simpa using hv)
 refine qE (zL3 _ _ om) (qB (Q:=fun r:List (List Str) ⊕ List (List Str)=>match r with | .inl m=>m.length=axes.length∧(∀ x ∈ m,x≠[])∧∀ x ∈ m,smKy x | .inr m=>m=[])
  (qF axes.length (fun n s=>s.1=(n:Int)∧s.2.length=axes.length∧(∀ x ∈ s.2.take n,x≠[])∧∀ x ∈ s.2,smKy x) ?_ ⟨rfl,sI,sI,by grind [smKy]⟩) fun r hr=>?_)
 ·rintro n ⟨_,m⟩ hn ⟨rfl,h1,h2,h3⟩
  simp only at h1 h2 h3;refine qC (fun h4=>?_) fun h4=>qO ⟨h1,gR,h3⟩
  have h4:n<axes.length:=by simpa using h4
  have h5:n<m.length:=by omega
  refine qE (zAF h4) (qB (zXC _ l strict (ha _ (lM h4)) hl) fun x hx=>qE (zAF h5) (qE (zLj x h5) (qE (zAF (by simpa using h5)) (qC (fun _=>qO rfl) fun h6=>qO ⟨h4,by rw [wrs om],by simpa using h1,?_,?_⟩))))
  all_goals grind [zAa,List.take_set_of_le,smKy]
 cases r with
 | inr e=>grind [qO]
 | inl R =>
  obtain ⟨r1,r2,r3⟩:=hr;refine qE (zL3 _ _ om) (qB (qF 1 (fun n s=>if n=0 then s=([],List.replicate axes.length 0) else 1≤s.1.length∧∀ k ∈ s.1,smKy k) ?_ rfl) fun r hr=>qO hr);rintro n ⟨o,d⟩ hn hI;by_cases h0:n=0
  ·subst h0
   obtain ⟨rfl,rfl⟩:=Prod.mk.inj (show (o,d)=_ from hI);refine qE (zL3 _ _ om) (qB (Q:=smKy) (qF axes.length (fun n s=>s.1=(n:Int)∧s.2.length=axes.length∧smKy s.2) ?_ ⟨rfl,sI,by grind [smKy]⟩) fun k hk=>qB (xappT sI) fun l hl=>?_)
   ·rintro n ⟨_,m⟩ hn ⟨rfl,h1,h2⟩
    simp only at h1 h2;refine qC (fun h4=>?_) fun h4=>qO h2
    have h4:n<axes.length:=by simpa using h4
    have h5:n<R.length:=by omega
    have h6:=List.length_pos_iff.2 (r2 _ (lM h5));refine qE (zAF (by simpa using h4)) (qE (zAF h5) (qE (by rw [List.getElem_replicate]; exact zAF (n:=0) h6) (qE (zAF (show n<m.length by omega)) (qE (zLj _ (show n<m.length by omega)) (qO ⟨h4,by rw [wrs om],by simpa using h1,?_⟩)))))
    grind [lM,smKy]
   ·refine qB (Q:=fun r:Int×List Int=>r.1<r.2.length∧r.2.length=axes.length) (qF axes.length (fun n s=>s.1=(axes.length:Int) - 1 - n∧s.2.length=axes.length) ?_ ⟨by grind [wrI],sI⟩) fun r hr=>qC (fun _=>qO gR) fun h=>?_
    ·rintro n ⟨_,m⟩ hn ⟨rfl,h1⟩
     simp only at h1;refine qB (Q:=fun b=>b=true→n<axes.length) (qC (fun h=>?_) fun _=>qO sI) fun b hb=>qC (fun h=>?_) fun _=>qO ⟨by simp only; omega,h1⟩
     ·grind [qB,xnthT,qO]
     ·have h:=hb h
      have e:(axes.length:Int) - 1 - n=(axes.length - 1 - n:Nat):=by omega
      grind [qB,xnthT,zLj,qO,wrI]
    ·have h:=dF h
     have e:r.1=(r.1.toNat:Nat):=by omega
     rw [e];exact qB (xnthT om om) fun _ _=>qB (xnthT om om) fun _ _=>qE (zLj _ om) (qO ⟨om,gR⟩)
  ·obtain rfl:n=1:=by omega
   rw [if_neg h0] at hI;refine qC (fun h=>?_) fun _=>qO hI.2 <;> grind
theorem findT (t:GTable) (l:List GField) (strict:Bool) (h:FindOK t l):Tot (zIq t l strict) fun r=>r.1<t.fEntries.length:=by
 have hnm:=h.nm;unfold zIq;refine qC (fun _=>qB (lastT _ _ om fun e he=>qE (zU8 _ _ l h.fl (h.vr e he).1 (h.vr e he).2) (qO trivial)) fun r hr=>qO hr) fun _=>?_
 refine qB (bestT _ l strict h.ax h.fl) fun b hb=>qC (fun _=>qO (by simp only; omega)) fun _=>qB (lastT _ _ om fun e he=>qB (KHasT _ e _ ⟨h.al,fun a ha=>(h.ax a ha).1⟩ (h.ks e he) hb) fun _ _=>qO trivial) fun r hr=>qO hr
structure RqO (B:Nat) (q:GRequest):Prop where
 lm:q.fMethod.length≤B
 sm:noSp q.fMethod
 fl:smW 66 10000 q.fFields
 m0:0≤q.fMinor
 m1:q.fMinor≤1000
theorem zOi (B:Nat) (hB:B≤5000) (name:Str) (q:GRequest) (u:GURI) (hn:name.length≤100) (hq:RqO B q) (hu:uOK B u):Tot (zFI name q u) Any:=by
 obtain ⟨u1,u2,u3,u4,u5,u6,u7⟩:=hu;obtain ⟨q1,q2,q3,q4,q5⟩:=hq;have hT:=smW_T q3 om om;unfold zFI;refine qB (Q:=fun x:GRequest=>x.fMethod=q.fMethod∧x.fMinor=1∧smW 67 10000 x.fFields) ?_ fun x hx=>?_
 ·unfold zEj
  refine qE (zLb _ (zPx hT)) ?_;have hs:=(zI1 q.fFields).W q3;have hl:=hs.1;refine qE (zTo _ _ _ om om om om) ?_;have hi:=zGs q.fMinor om om;have hv:smW 67 10000 (viaF (zLN q.fFields) q.fMinor name):=by
   unfold viaF;refine zK3 hs ⟨by unfold viaN; simp,?_⟩
   grind
  refine qB (zRD _ _ (smW_T hv om om) dE dE) fun l hl=>qO ⟨rfl,rfl,hl.W hv⟩
 obtain ⟨x1,x2,x3⟩:=hx;have xT:=smW_T x3 om om;have xl:=x3.1;refine qB (Q:=fun s:Str=>s.length≤2*B+1∧noSp s) (qC (fun _=>?_) fun _=>qO ⟨om,u5⟩) fun tg htg=>?_
 ·grind [qB,xcatT,noSp,qO]
 refine qB (Q:=fun s:Str=>s.length≤B+22) (qC (fun _=>?_) fun _=>qO om) fun au hau=>?_
 ·grind [qB,decAT,xcatT,qO]
 refine qE (zIS _ _ (smT_F xT).1 (smT_F xT).2 dE) ?_;refine qB (Q:=smT) (qC (fun _=>?_) fun _=>?_) fun l hl=>?_
 ·exact qB (setT _ _ au xT dE om) fun r hr=>qO ⟨om,hr.2⟩
 ·refine qB (xappT gR) fun z e=>qO ?_
  rw [e];refine ⟨gR,fun f hf=>?_⟩;rcases List.mem_append.1 hf with hm | hm
  ·rw [lO] at hm; subst hm; exact ⟨sI,gR⟩
  ·exact xT.2 f hm
 grind [frqT]
def okO (o:GOutput) (w:Option Gproxy_exchange):Prop:=(o.fToOrigin=[]↔o.fToClient≠[])∧(w.isSome=true↔o.fToOrigin≠[])
theorem okO_c {o:GOutput} (h:toC o):okO o none:=⟨⟨fun _=>h.1,fun _=>h.2⟩,by rw [h.2]; simp⟩
theorem okO_o {s:Str} {x:Gproxy_exchange} (h:s≠[]):okO ⟨[],s⟩ (some x):=⟨by simp [h],by simp [h]⟩
theorem zVA (B : Nat) (hB : B ≤ 5000) (name : Str) (q : GRequest) (u : GURI) (order : List Str) (x : Gproxy_exchange) (hn : name.length ≤ 100) (hq : RqO B q) (hu : uOK B u) :
  Tot (zEl name q u none order x) fun r=>r.2.1=0∧okO r.1 r.2.2.1∧(r.2.2.1=none∨r.2.2.1=some x)∧r.2.2.2=order:=by
 unfold zEl;refine qB (zOi B hB name q u hn hq hu) fun a _=>?_
 refine qC (fun _=>?_) fun h=>qO ⟨rfl,okO_o (by simpa using h),.inr rfl,rfl⟩
 exact qB (ownT q 400 (by unfold own; omega)) fun o ho=>qO ⟨rfl,okO_c ho,.inl rfl,rfl⟩
theorem zWz (e:GEntry) (q:GRequest) (now:Int) (he:smL e.fFields) (hq:smT q.fFields):Tot (zF3 e q now) Any:=by
 unfold zF3;obtain ⟨f1,f2⟩:=smL_F he;refine qE (zMF _ f1 f2) ?_
 grind [zUm,zKs,smT_F,zGa,zVF,qO]
theorem zXy (t : GTable) (q : GRequest) (now : Int) (cf : GConfig) (hf : FindOK t q.fFields) (hq : smT q.fFields) (he : ∀ e ∈ t.fEntries, smL e.fFields) :
  Tot (zFy t q now cf) fun d=>(d.fKind=1∨d.fKind=2)→0≤d.fIndex∧d.fIndex<t.fEntries.length:=by
 unfold zFy;refine qC (fun _=>qO sI) fun _=>?_
 refine qB (findT t _ _ hf) fun x hr=>?_
 refine qC (fun _=>qO sI) fun _=>?_
 refine qE (zKs _ (smT_F hq).1 (smT_F hq).2) ?_;refine qC (fun _=>qO sI) fun _=>?_
 refine qB (Q:=fun y:Int=>(y=2∨y=1)→0≤x.1) (qC (fun h=>?_) fun _=>qO om) fun y hy=>?_ <;> grind [qB,qO,xnthT,zWz,zLM,zUZ]
end Go.Eng.Pure
namespace Go.Eng.Pure
open Go Go.Eng Go.VI
def szN (t:GTable):Nat:=(t.fEntries.map sizeS).sum
def sumT (f:GTable→Nat) (m:Tabs):Nat:=(m.map fun p=>f p.2).sum
theorem zLZ (f:GTable→Nat) (h0:f zT=0) (k:Str) (t:GTable):∀ m:Tabs,sumT f (mset m k t)+f (mget m k zT).1=sumT f m+f t
 | []=>by simp [mset,mget,sumT,h0]
 | p :: m=>by
  have ih:=zLZ f h0 k t m;unfold mset;unfold mget at ih ⊢;rw [List.lookup_cons];cases h:k==p.1 with
  | true =>
   rw [if_pos rfl];simp only [sumT,List.map_cons,List.sum_cons];omega
  | false =>
   rw [if_neg sI];simp only [sumT,List.map_cons,List.sum_cons] at ih ⊢;omega
theorem zLe (f:GTable→Nat) (h0:f zT=0) (k:Str):∀ m:Tabs,sumT f (mdel m k)+f (mget m k zT).1=sumT f m
 | []=>by simp [mdel,mget,sumT,h0]
 | p :: m=>by
  have ih:=zLe f h0 k m;unfold mdel;unfold mget at ih ⊢;rw [List.lookup_cons];cases h:k==p.1 with
  | true =>
   rw [if_pos rfl];simp only [sumT,List.map_cons,List.sum_cons];omega
  | false =>
   rw [if_neg sI];simp only [sumT,List.map_cons,List.sum_cons] at ih ⊢;omega
theorem szN_z:szN zT=0:=rfl
def enOK (N:Nat) (e:GEntry):Prop:=smE e∧e.fFields.length≤N∧∀ f ∈ e.fFields,smP 1500 f
structure tOK (N:Nat) (t:GTable):Prop where
 n1:1≤t.fEntries.length
 n2:t.fEntries.length≤64
 ax:smAx t.fAxes∧∀ a ∈ t.fAxes,smA a∧a.fValues.length≤1000000
 en:∀ e ∈ t.fEntries,enOK N e
theorem zQe {e:GEntry} (h:smE e):sizeS e≤1000000000:=by
 obtain ⟨⟨h1,h2⟩,h3,h4,h5,h6,h7⟩:=h
 grind [zQO,zUG,zUU,sizeS]
theorem zRl (t:GTable) (hn:t.fEntries.length≤1000) (he:∀ e ∈ t.fEntries,smE e):sizeT t=(szN t:Int):=by
 have key:∀ (l:List GEntry) (n:Nat),(∀ e ∈ l,smE e)→n+1000000000*l.length≤1000000000000000→l.foldl (fun (st:Int) x=>wr (st+(sizeS x:Int))) (n:Int)=((n+(l.map sizeS).sum:Nat):Int):=by
  intro l
  induction l with
  | nil=>intro n _ _; simp
  | cons x l ih =>
   intro n h hb;have hx:=zQe (h x lS);rw [lC] at hb;rw [List.foldl_cons,wrI (by omega) (by omega),show (n:Int)+(sizeS x:Int)=((n+sizeS x:Nat):Int) by omega,ih (n+sizeS x) (fun e he=>h e (lN _ he)) (by omega)]
   grind
 grind [sizeT,szN]
theorem zNJ (t:GTable) (hn:t.fEntries.length≤1000) (he:∀ e ∈ t.fEntries,smE e):szN t≤1000000000000:=by
 have key:∀ l:List GEntry,(∀ e ∈ l,smE e)→(l.map sizeS).sum≤1000000000*l.length:=by
  intro l
  induction l <;> grind [zQe]
 grind [szN]
structure Sto (N:Nat) (used:Int) (order:List Str) (m:Tabs):Prop where
 nd:ND m
 on:order.Nodup
 ok:∀ k,k ∈ order↔k ∈ m.map Prod.fst
 us:used=(sumT szN m:Int)
 bd:used≤1000000000000000
 tb:∀ p ∈ m,tOK N p.2
theorem zNO (k:Str) (v:GTable):∀ m:Tabs,m.lookup k=some v→(k,v) ∈ m
 | [],e=>by cases e
 | p :: m,e=>by
  rw [List.lookup_cons] at e;cases hk:k==p.1 with
  | true =>
   grind
  | false =>
   rw [hk] at e;exact lN _ (zNO k v m e)
variable {k:Str} {m:Tabs} {order:List Str}
theorem zLh (h:(mget m k zT).2=true):(k,(mget m k zT).1) ∈ m:=by
 grind [mget,zNO]
theorem zT6 (h:(mget m k zT).2=false):(mget m k zT).1=zT:=by
 grind [mget]
theorem zNU {N:Nat} {used:Int} (S:Sto N used order m) (k:Str):(mget m k zT).1=zT∨tOK N (mget m k zT).1:=by
 cases h:(mget m k zT).2 with
 | true=>exact .inr (S.tb _ (zLh h))
 | false=>exact .inl (zT6 h)
theorem zXr {N:Nat} {used:Int} (S:Sto N used order m) (k:Str):(mget m k zT).1.fEntries.length≤64∧∀ e ∈ (mget m k zT).1.fEntries,smE e:=by
 rcases zNU S k with h | h
 ·rw [h]; simp
 ·exact ⟨h.n2,fun e he=>(h.en e he).1⟩
theorem keyM:(mget m k zT).2=true↔k ∈ m.map Prod.fst:=by
 grind [zLh,mget]
theorem zQl {t:GTable}:∀ p ∈ mset m k t,p ∈ m∨p=(k,t):=by
 induction m <;> grind [mset]
theorem zVs:∀ p ∈ mdel m k,p ∈ m:=by
 induction m <;> grind [mdel]
theorem zQ3 {k k':Str}:∀ {m:Tabs},ND m→(k' ∈ (mdel m k).map Prod.fst↔k' ∈ m.map Prod.fst∧k'≠k)
 | m,h=>by
  have h2:=zMT (β:=GTable) h;have h3:=zJY (β:=GTable) k k' m h;rw [← keyM,← keyM];unfold mget
  grind
theorem setT1 {N : Nat} {used : Int} (S : Sto N used order m) (key : Str) (t : GTable) (ht : t.fEntries = [] ∨ tOK N t) (hb : sumT szN m + szN t ≤ 900000000000000) :
  Tot (zEV used order m key t) fun s=>s.1=(sumT szN s.2.2:Int)∧s.1=used+szN t - szN (mget m key zT).1 ∧
   (t.fEntries=[]→s.2.1=zDE order key∧s.2.2=mdel m key∧Sto N s.1 s.2.1 s.2.2) ∧
   (t.fEntries≠[]→s.2.1=order∧s.2.2=mset m key t∧(key ∈ order→Sto N s.1 s.2.1 s.2.2)):=by
 obtain ⟨g1,g2⟩:=zXr S key;have hs:t.fEntries.length≤64∧∀ e ∈ t.fEntries,smE e:=by
  rcases ht with h | h
  ·rw [h]; simp
  ·exact ⟨h.n2,fun e he=>(h.en e he).1⟩
 have z1:=zNJ t om hs.2;have z2:=zNJ _ om g2;have hu:=S.us;unfold zEV;refine qE (zOv t om hs.2) ?_;refine qE (zOv _ om g2) ?_;rw [zRl t om hs.2,zRl _ om g2];have e1:wr ((szN t:Int) - (szN (mget m key zT).1:Int))=(szN t:Int) - (szN (mget m key zT).1:Int):=wrI om om;rw [e1,wrI om om];refine qC (fun h=>?_) fun h=>?_
 ·have h:=dT h
  have hne:t.fEntries≠[]:=fun e=>by grind
  have htk:tOK N t:=ht.resolve_left hne;have hsum:=zLZ szN szN_z key t m;refine qO ⟨gR,om,fun e=>absurd e hne,fun _=>⟨rfl,rfl,fun hk=>?_⟩⟩;have hkm:=(S.ok key).1 hk;refine ⟨S.nd.mset key t,S.on,fun k=>?_,gR,om,fun p hp=>?_⟩
  ·rw [zKX,if_pos hkm]; exact S.ok k
  ·rcases zQl p hp with h | h
   ·exact S.tb p h
   grind
 ·have h:=dF h
  have he:t.fEntries=[]:=List.length_eq_zero_iff.1 om;have hz:szN t=0:=by unfold szN; rw [he]; rfl
  have hsum:=zLe szN szN_z key m;refine qO ⟨gR,om,fun _=>⟨rfl,rfl,?_⟩,fun e=>absurd he e⟩;refine ⟨S.nd.mdel key,S.on.filter _,fun k=>?_,gR,om,fun p hp=>S.tb p (zVs p hp)⟩;rw [zQ3 S.nd];unfold zDE;rw [List.mem_filter,S.ok k];simp
end Go.Eng.Pure
namespace Go.Eng.Pure
open Go Go.Eng Go.VI
variable {N:Nat} {t:GTable}
theorem zP6 (h:tOK N t):zBW t=some t:=zHu t (by have:=h.ax.1.1; omega) (fun a ha=>by have:=(h.ax.2 a ha).2; omega) (by have:=h.n2; omega) (fun e he=>zI3 (h.en e he).1)
def rmT (t:GTable) (i:Nat):GTable:=⟨t.fAxes,t.fEntries.take i++t.fEntries.drop (i+1)⟩
theorem zQF {i:Nat} (h:i<t.fEntries.length):(rmT t i).fEntries.length+1=t.fEntries.length:=by
 unfold rmT
 grind
theorem zTN (h:tOK N t) (i:Nat) (hi:i<t.fEntries.length):(rmT t i).fEntries=[]∨tOK N (rmT t i):=by
 by_cases e:(rmT t i).fEntries=[]
 ·exact .inl e
 ·have hl:=zQF hi
  refine .inr ⟨List.length_pos_iff.2 e,by have:=h.n2; omega,h.ax,fun x hx=>h.en x ?_⟩ <;> grind [rmT]
theorem zNi (h:tOK N t) (i:Nat) (hi:i<t.fEntries.length):zDD t (i:Int)=some (rmT t i):=by
 have hn:=h.n2;unfold zDD;rw [zP6 h,zAA];have e:(decide (0≤(i:Int))&&decide ((i:Int)<(t.fEntries.length:Int)))=true:=by
  grind
 rw [e,zAG,wrI om om];unfold zAw delI;rw [if_pos ⟨om,om,om⟩];rfl
theorem zRf {used : Int} {order : List Str} {m : Tabs} (S : Sto N used order m) (hu : used ≤ 100000000000) (key : Str) :
  Tot (zEF used order m key) fun s=>Sto N s.2.1 s.2.2.1 s.2.2.2∧s.2.1≤used∧s.2.2.1.length≤order.length:=by
 have hs:=S.us;unfold zEF;refine qC (fun _=>qO ⟨S,sI,sI⟩) fun _=>?_
 refine qB (setT1 S key zT (.inl rfl) (by rw [szN_z]; omega)) fun s h=>qO ?_
 obtain ⟨h1,h2,h3,_⟩:=h;obtain ⟨h4,h5,h6⟩:=h3 rfl;rw [szN_z] at h2;exact ⟨h6,gR,by simp only []; rw [h4]; exact List.length_filter_le _ _⟩
theorem zIw {m:Tabs} {k k':Str}:(mget (mset m k t) k' zT).1=if k'==k then t else (mget m k' zT).1:=zL6 m k k' t zT
theorem zYV {used:Int} {key:Str} {m:Tabs} (S:Sto N used [key] m):used=(szN (mget m key zT).1:Int):=by
 have h1:=zLe szN szN_z key m;have h2:mdel m key=[]:=by
  cases e:mdel m key with
  | nil=>rfl
  | cons p r =>
   exfalso;have hk:p.1 ∈ (mdel m key).map Prod.fst:=by rw [e]; simp
   rw [zQ3 S.nd,← S.ok] at hk;simp at hk
 rw [h2] at h1;have:=S.us
 grind [sumT]
theorem zQB {order:List Str} {o key:Str} (h:order.getLast?=some key) (hne:o≠key):(zDE order o).getLast?=some key:=by
 unfold zDE;obtain ⟨l,rfl⟩:∃ l,order=l++[key]:=⟨order.dropLast,by
  have hn:order≠[]:=fun e=>by grind
  grind [List.dropLast_concat_getLast]⟩
 grind
def kept (B:Int) (m:Tabs) (key:Str) (keep:Int):Prop:=∃ (j:Nat) (e:GEntry),keep=(j:Int)∧(mget m key zT).1.fEntries[j]?=some e∧(sizeS e:Int)≤B
theorem zSf {N : Nat} (B T : Int) (hB : 1 ≤ B) (hB2 : B ≤ 100000000) (hT : 1 ≤ T) (key : Str) {used : Int} {order : List Str} {m : Tabs} (keep : Int) (S : Sto N used order m) (hu : used ≤ 100000000000000) (hl : order.getLast? = some key) (hk : kept B m key keep) :
  Tot (zEG B T used order m key keep) fun s=>Sto N s.1 s.2.1 s.2.2∧s.1≤B∧(s.2.1.length:Int)≤T:=by
 unfold zEG
 refine qB (qL (P:=fun s:Int×List Str×Tabs=>Sto N s.1 s.2.1 s.2.2∧s.1≤B∧(s.2.1.length:Int)≤T)
  (fun s:Int×Int×List Str×Tabs=>Sto N s.2.1 s.2.2.1 s.2.2.2∧s.2.1≤100000000000000∧s.2.2.1.getLast?=some key∧kept B s.2.2.2 key s.1)
  (fun s:Int×Int×List Str×Tabs=>sumT (fun t=>t.fEntries.length) s.2.2.2) (fun s hs=>?_) (keep,used,order,m) ⟨S,hu,hl,hk⟩) fun r hr=>qO hr
 clear S hu hl hk used order m keep;obtain ⟨keep,used,order,m⟩:=s;obtain ⟨S,hu,hl,hk⟩:=hs;simp only [] at S hu hl hk;unfold zIU;refine qC (fun hc=>?_) fun hc=>qS (P:=fun s:Int×List Str×Tabs=>Sto N s.1 s.2.1 s.2.2∧s.1≤B∧(s.2.1.length:Int)≤T) (by
  grind)
 obtain ⟨o,l,rfl⟩:∃ o l,order=o :: l:=by
  cases order <;> grind
 refine qE (zEW o l) ?_;refine qE (a:=o) rfl ?_;have hom:o ∈ m.map Prod.fst:=(S.ok o).1 lS;have htab:tOK N (mget m o zT).1:=S.tb _ (zLh (keyM.2 hom));have hcnt:=fun t=>zLZ (fun t:GTable=>t.fEntries.length) rfl o t m
 have hcntd:=zLe (fun t:GTable=>t.fEntries.length) rfl o m;have hszs:=fun t=>zLZ szN szN_z o t m
 have hus:=S.us;have hn2:=htab.n2;have hbd:=zNJ _ (by omega) (fun e he=>(htab.en e he).1);by_cases ho:o=key
 ·subst ho
  have hnd:=S.on;have hl1:l=[]:=by
   grind
  subst hl1;have hsing:=zYV S;have hbu:B<used:=by
   grind
  obtain ⟨j,e,rfl,hj,hje⟩:=hk;have hjl:j<(mget m o zT).1.fEntries.length:=(List.getElem?_eq_some_iff.1 hj).1;have h2:2≤(mget m o zT).1.fEntries.length:=by
   by_cases h:j=0
   ·subst h
    rcases Nat.lt_or_ge 1 (mget m o zT).1.fEntries.length with h | h
    ·omega
    ·exfalso
     have:szN (mget m o zT).1=sizeS e:=by
      unfold szN;cases hE:(mget m o zT).1.fEntries <;> grind
     omega
   ·omega
  have key1 : ∀ (i : Nat) (k' : Nat), i < 2 → (rmT (mget m o zT).1 i).fEntries[k']? = some e →
    Tot ((zDD (mget m o zT).1 (i:Int)).bind fun t=>(zEV used [o] m o t).bind fun s=>some (.inl ((k':Int),s.1,s.2.1,s.2.2):(Int×Int×List Str×Tabs) ⊕ (Int×List Str×Tabs)))
     fun x=>(∃ s',x=.inl s'∧(fun s:Int×Int×List Str×Tabs=>Sto N s.2.1 s.2.2.1 s.2.2.2∧s.2.1≤100000000000000∧s.2.2.1.getLast?=some o∧kept B s.2.2.2 o s.1) s'∧(fun s:Int×Int×List Str×Tabs=>sumT (fun t=>t.fEntries.length) s.2.2.2) s'<(fun s:Int×Int×List Str×Tabs=>sumT (fun t=>t.fEntries.length) s.2.2.2) ((j:Int),used,[o],m))∨∃ r,x=.inr r∧(fun s:Int×List Str×Tabs=>Sto N s.1 s.2.1 s.2.2∧s.1≤B∧(s.2.1.length:Int)≤T) r:=by
   intro i k' hi hk';refine qE (zNi htab i (by omega)) ?_;have hrl:=zQF (t:=(mget m o zT).1) (i:=i) (by omega);have hne:(rmT (mget m o zT).1 i).fEntries≠[]:=fun e=>by grind
   have hrok:=zTN htab i (by omega);have hrb:=zNJ _ (by omega) (fun e he=>((hrok.resolve_left hne).en e he).1);refine qB (setT1 S o _ hrok (by omega)) fun s hs=>?_
   obtain ⟨s1,s2,_,s4⟩:=hs;obtain ⟨s5,s6,s7⟩:=s4 hne;have hsub:szN (rmT (mget m o zT).1 i)≤szN (mget m o zT).1:=by
    grind [szN,rmT,List.take_append_drop,lD]
   refine qN ⟨s7 lS,by simp only []; omega,by grind,k',e,rfl,?_,hje⟩ ?_
   all_goals grind [zIw]
  by_cases h0:j=0
  ·subst h0
   have c1:((o==o)&&(((0:Nat):Int)==0))=true:=by simp
   rw [c1];refine qE (a:=(1:Int)) rfl ?_;have c2:((o==o)&&((1:Int)==0))=false:=by simp
   rw [c2];refine qE (a:=((0:Nat):Int)) rfl ?_;refine key1 1 0 (by omega) ?_;unfold rmT
   grind
  ·have c1:((o==o)&&((j:Int)==0))=false:=by simp; omega
   rw [c1];refine qE (a:=(0:Int)) rfl ?_;have c2:((o==o)&&((0:Int)==0))=true:=by simp
   rw [c2];refine qE (a:=((j - 1:Nat):Int)) (by grind [wrI]) ?_;refine key1 0 (j - 1) (by omega) ?_;unfold rmT
   grind
 ·have hb:(o==key)=false:=by grind
  rw [hb,Bool.false_and];refine qE (a:=(0:Int)) rfl ?_;rw [Bool.false_and];refine qE (a:=keep) rfl ?_;have hlen:=htab.n1;refine qE (zNi htab 0 (by omega)) ?_;have hrl:=zQF (t:=(mget m o zT).1) (i:=0) (by omega);have hrok:=zTN htab 0 (by omega);have hrb:szN (rmT (mget m o zT).1 0)≤szN (mget m o zT).1:=by
   unfold szN rmT;cases hE:(mget m o zT).1.fEntries <;> grind
  refine qB (setT1 S o _ hrok (by omega)) fun s hs=>?_
  obtain ⟨s1,s2,s3,s4⟩:=hs;by_cases he:(rmT (mget m o zT).1 0).fEntries=[]
  ·obtain ⟨s5,s6,s7⟩:=s3 he
   refine qN ⟨s7,by simp only []; omega,by grind [zQB],?_⟩ ?_
   ·obtain ⟨j,e,a1,a2,a3⟩:=hk
    refine ⟨j,e,a1,?_,a3⟩;simp only [];rw [s6,zMT S.nd,if_neg (by grind)]; exact a2
   grind
  ·obtain ⟨s5,s6,s7⟩:=s4 he
   refine qN ⟨s7 lS,by simp only []; omega,by grind,?_⟩ ?_
   ·obtain ⟨j,e,a1,a2,a3⟩:=hk
    refine ⟨j,e,a1,?_,a3⟩
    grind [zIw]
   grind
end Go.Eng.Pure
