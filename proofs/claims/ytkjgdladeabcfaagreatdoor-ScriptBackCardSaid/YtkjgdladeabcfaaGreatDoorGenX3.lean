/- A part. -/
import Derived.Test.YtkjgdladeabcfaaGreatDoorEng38
import Derived.Test.YtkjgdladeabcfaaGreatDoorEng40
import Derived.Test.YtkjgdladeabcfaaGreatDoorGenX2
namespace Go.Proofs
set_option maxHeartbeats 4000000
set_option maxRecDepth 10000
open Go.Eng Go.Eng.Pure
set_option linter.unusedVariables false
theorem zAT {o ws:World} {p Hs:Hp} {q:List Ent} (hG:Tryz.Gl o) (s0_buf:(List UInt8)) {d:Value} {va0:Value} {c:Nat} (S:St o p ws Hs (.box c 33 [va0,d] :: .row d 5 1 s0_buf.length :: q)) (R0_1:Sl Hs d s0_buf) (t:va0=Value.pointer none∨va0=ptr c 0) {r:Str} (h:zAN s0_buf=some r) :
  ConS Tryz.prog 14 [(ptr c 0)] o p ws Hs q (fun H' v L'=>L'=[.box c 33 [va0,d]]∧v=(str r)):=by
 refine ConS.mk (N:=14) Tryz.func14 rfl rfl kr rfl<|Ws<|Wg<|A<|We<|Ws<|WP.draw kr 12 rfl (bm 12 0) rfl ?_
 have S:=S.drew
 refine At_ 0 12 1 rfl (fun _=>(R.mv (v:=ptr c 0) rfl)) ?_
 refine At_ 5 12 33 rfl (fun _=>(R.mv (v:=ptr c 0) rfl)) ?_
 refine WA.two (i:=1) (j:=6) (bm 12 35) (bm 12 97) rfl rfl kr rfl rfl ?_ ?_
 ·refine Nn<|We ?_
  refine At_ 2 12 39 rfl (fun _=>(R.fieldB rfl zBK)) ?_
  refine WA.two (i:=3) (j:=6) (bm 12 47) (bm 12 103) rfl rfl kr rfl rfl ?_ ?_
  ·refine Lo 0 S<|We ?_
   refine WA.two (i:=4) (j:=6) (bm 12 63) (bm 12 111) rfl rfl kr rfl rfl ?_ ?_
   ·refine W.sliceData (i:=1) S rfl rfl Tryz.underlying51 ?_
    intro f k b S
    refine We<|WA.one (i:=6) (bm 12 127) rfl kr rfl<|Nn<|We ?_
    refine At_ 7 12 255 rfl (fun _=>(R.fieldB rfl zBK))<|WA.one (i:=8) (bm 12 511) rfl kr rfl ?_
    refine Lo 0 S<|We ?_
    refine At_ 9 12 1023 rfl (fun _=>(R.lenL (α:=UInt8) (xs:=s0_buf) (H:=Hs) R0_1 rfl Tryz.underlying27))<|WA.one (i:=10) (bm 12 2047) rfl kr rfl ?_
    refine W.strOf (i:=1) S rfl R0_1 b rfl rfl Tryz.underlying51 ceo5 ?_
    intro l S
    refine We ?_
    refine At_ 11 12 4095 rfl (fun _=>(R.as (v:=str s0_buf) rfl))<|WA.done kr ?_
    obtain rfl:=oi h
    refine WP.ret (OutS.one (L':=[.box c 33 [va0,d]]) rfl lr S rfl ?_)
    exact ⟨rfl,rfl⟩
   refine Nn<|We ?_
   refine At_ 7 12 239 rfl (fun _=>(R.fieldB rfl zBK)) ?_
   refine WA.two (i:=4) (j:=8) (bm 12 255) (bm 12 495) rfl rfl kr rfl rfl ?_ ?_
   ·refine W.sliceData (i:=1) S rfl rfl Tryz.underlying51 ?_
    intro f k b S
    refine We<|WA.one (i:=8) (bm 12 511) rfl kr rfl ?_
    refine Lo 0 S<|We ?_
    refine At_ 9 12 1023 rfl (fun _=>(R.lenL (α:=UInt8) (xs:=s0_buf) (H:=Hs) R0_1 rfl Tryz.underlying27))<|WA.one (i:=10) (bm 12 2047) rfl kr rfl ?_
    refine W.strOf (i:=1) S rfl R0_1 b rfl rfl Tryz.underlying51 ceo5 ?_
    intro l S
    refine We ?_
    refine At_ 11 12 4095 rfl (fun _=>(R.as (v:=str s0_buf) rfl))<|WA.done kr ?_
    obtain rfl:=oi h
    refine WP.ret (OutS.one (L':=[.box c 33 [va0,d]]) rfl lr S rfl ?_)
    exact ⟨rfl,rfl⟩
   refine Lo 0 S<|We ?_
   refine At_ 9 12 1007 rfl (fun _=>(R.lenL (α:=UInt8) (xs:=s0_buf) (H:=Hs) R0_1 rfl Tryz.underlying27))<|WA.one (i:=4) (bm 12 1023) rfl kr rfl<|W.sliceData (i:=1) S rfl rfl Tryz.underlying51 ?_
   intro f k b S
   refine We<|WA.one (i:=10) (bm 12 2047) rfl kr rfl ?_
   refine W.strOf (i:=1) S rfl R0_1 b rfl rfl Tryz.underlying51 ceo5 ?_
   intro l S
   refine We ?_
   refine At_ 11 12 4095 rfl (fun _=>(R.as (v:=str s0_buf) rfl))<|WA.done kr ?_
   obtain rfl:=oi h
   refine WP.ret (OutS.one (L':=[.box c 33 [va0,d]]) rfl lr S rfl ?_)
   exact ⟨rfl,rfl⟩
  refine Nn<|We ?_
  refine At_ 7 12 231 rfl (fun _=>(R.fieldB rfl zBK)) ?_
  refine WA.two (i:=3) (j:=8) (bm 12 239) (bm 12 487) rfl rfl kr rfl rfl ?_ ?_
  ·refine Lo 0 S<|We ?_
   refine WA.two (i:=4) (j:=8) (bm 12 255) (bm 12 495) rfl rfl kr rfl rfl ?_ ?_
   ·refine W.sliceData (i:=1) S rfl rfl Tryz.underlying51 ?_
    intro f k b S
    refine We<|WA.one (i:=8) (bm 12 511) rfl kr rfl ?_
    refine Lo 0 S<|We ?_
    refine At_ 9 12 1023 rfl (fun _=>(R.lenL (α:=UInt8) (xs:=s0_buf) (H:=Hs) R0_1 rfl Tryz.underlying27))<|WA.one (i:=10) (bm 12 2047) rfl kr rfl ?_
    refine W.strOf (i:=1) S rfl R0_1 b rfl rfl Tryz.underlying51 ceo5 ?_
    intro l S
    refine We ?_
    refine At_ 11 12 4095 rfl (fun _=>(R.as (v:=str s0_buf) rfl))<|WA.done kr ?_
    obtain rfl:=oi h
    refine WP.ret (OutS.one (L':=[.box c 33 [va0,d]]) rfl lr S rfl ?_)
    exact ⟨rfl,rfl⟩
   refine Lo 0 S<|We ?_
   refine At_ 9 12 1007 rfl (fun _=>(R.lenL (α:=UInt8) (xs:=s0_buf) (H:=Hs) R0_1 rfl Tryz.underlying27))<|WA.one (i:=4) (bm 12 1023) rfl kr rfl<|W.sliceData (i:=1) S rfl rfl Tryz.underlying51 ?_
   intro f k b S
   refine We<|WA.one (i:=10) (bm 12 2047) rfl kr rfl ?_
   refine W.strOf (i:=1) S rfl R0_1 b rfl rfl Tryz.underlying51 ceo5 ?_
   intro l S
   refine We ?_
   refine At_ 11 12 4095 rfl (fun _=>(R.as (v:=str s0_buf) rfl))<|WA.done kr ?_
   obtain rfl:=oi h
   refine WP.ret (OutS.one (L':=[.box c 33 [va0,d]]) rfl lr S rfl ?_)
   exact ⟨rfl,rfl⟩
  refine Lo 0 S<|We ?_
  refine At_ 9 12 999 rfl (fun _=>(R.lenL (α:=UInt8) (xs:=s0_buf) (H:=Hs) R0_1 rfl Tryz.underlying27))<|WA.one (i:=3) (bm 12 1007) rfl kr rfl ?_
  refine Lo 0 S<|We<|WA.one (i:=4) (bm 12 1023) rfl kr rfl<|W.sliceData (i:=1) S rfl rfl Tryz.underlying51 ?_
  intro f k b S
  refine We<|WA.one (i:=10) (bm 12 2047) rfl kr rfl ?_
  refine W.strOf (i:=1) S rfl R0_1 b rfl rfl Tryz.underlying51 ceo5 ?_
  intro l S
  refine We ?_
  refine At_ 11 12 4095 rfl (fun _=>(R.as (v:=str s0_buf) rfl))<|WA.done kr ?_
  obtain rfl:=oi h
  refine WP.ret (OutS.one (L':=[.box c 33 [va0,d]]) rfl lr S rfl ?_)
  exact ⟨rfl,rfl⟩
 refine Nn<|We ?_
 refine At_ 7 12 225 rfl (fun _=>(R.fieldB rfl zBK)) ?_
 refine WA.two (i:=1) (j:=8) (bm 12 227) (bm 12 481) rfl rfl kr rfl rfl ?_ ?_
 ·refine Nn<|We ?_
  refine At_ 2 12 231 rfl (fun _=>(R.fieldB rfl zBK)) ?_
  refine WA.two (i:=3) (j:=8) (bm 12 239) (bm 12 487) rfl rfl kr rfl rfl ?_ ?_
  ·refine Lo 0 S<|We ?_
   refine WA.two (i:=4) (j:=8) (bm 12 255) (bm 12 495) rfl rfl kr rfl rfl ?_ ?_
   ·refine W.sliceData (i:=1) S rfl rfl Tryz.underlying51 ?_
    intro f k b S
    refine We<|WA.one (i:=8) (bm 12 511) rfl kr rfl ?_
    refine Lo 0 S<|We ?_
    refine At_ 9 12 1023 rfl (fun _=>(R.lenL (α:=UInt8) (xs:=s0_buf) (H:=Hs) R0_1 rfl Tryz.underlying27))<|WA.one (i:=10) (bm 12 2047) rfl kr rfl ?_
    refine W.strOf (i:=1) S rfl R0_1 b rfl rfl Tryz.underlying51 ceo5 ?_
    intro l S
    refine We ?_
    refine At_ 11 12 4095 rfl (fun _=>(R.as (v:=str s0_buf) rfl))<|WA.done kr ?_
    obtain rfl:=oi h
    refine WP.ret (OutS.one (L':=[.box c 33 [va0,d]]) rfl lr S rfl ?_)
    exact ⟨rfl,rfl⟩
   refine Lo 0 S<|We ?_
   refine At_ 9 12 1007 rfl (fun _=>(R.lenL (α:=UInt8) (xs:=s0_buf) (H:=Hs) R0_1 rfl Tryz.underlying27))<|WA.one (i:=4) (bm 12 1023) rfl kr rfl<|W.sliceData (i:=1) S rfl rfl Tryz.underlying51 ?_
   intro f k b S
   refine We<|WA.one (i:=10) (bm 12 2047) rfl kr rfl ?_
   refine W.strOf (i:=1) S rfl R0_1 b rfl rfl Tryz.underlying51 ceo5 ?_
   intro l S
   refine We ?_
   refine At_ 11 12 4095 rfl (fun _=>(R.as (v:=str s0_buf) rfl))<|WA.done kr ?_
   obtain rfl:=oi h
   refine WP.ret (OutS.one (L':=[.box c 33 [va0,d]]) rfl lr S rfl ?_)
   exact ⟨rfl,rfl⟩
  refine Lo 0 S<|We ?_
  refine At_ 9 12 999 rfl (fun _=>(R.lenL (α:=UInt8) (xs:=s0_buf) (H:=Hs) R0_1 rfl Tryz.underlying27))<|WA.one (i:=3) (bm 12 1007) rfl kr rfl ?_
  refine Lo 0 S<|We<|WA.one (i:=4) (bm 12 1023) rfl kr rfl<|W.sliceData (i:=1) S rfl rfl Tryz.underlying51 ?_
  intro f k b S
  refine We<|WA.one (i:=10) (bm 12 2047) rfl kr rfl ?_
  refine W.strOf (i:=1) S rfl R0_1 b rfl rfl Tryz.underlying51 ceo5 ?_
  intro l S
  refine We ?_
  refine At_ 11 12 4095 rfl (fun _=>(R.as (v:=str s0_buf) rfl))<|WA.done kr ?_
  obtain rfl:=oi h
  refine WP.ret (OutS.one (L':=[.box c 33 [va0,d]]) rfl lr S rfl ?_)
  exact ⟨rfl,rfl⟩
 refine Lo 0 S<|We ?_
 refine At_ 9 12 993 rfl (fun _=>(R.lenL (α:=UInt8) (xs:=s0_buf) (H:=Hs) R0_1 rfl Tryz.underlying27))<|WA.one (i:=1) (bm 12 995) rfl kr rfl<|Nn<|We ?_
 refine At_ 2 12 999 rfl (fun _=>(R.fieldB rfl zBK))<|WA.one (i:=3) (bm 12 1007) rfl kr rfl ?_
 refine Lo 0 S<|We<|WA.one (i:=4) (bm 12 1023) rfl kr rfl<|W.sliceData (i:=1) S rfl rfl Tryz.underlying51 ?_
 intro f k b S
 refine We<|WA.one (i:=10) (bm 12 2047) rfl kr rfl ?_
 refine W.strOf (i:=1) S rfl R0_1 b rfl rfl Tryz.underlying51 ceo5 ?_
 intro l S
 refine We ?_
 refine At_ 11 12 4095 rfl (fun _=>(R.as (v:=str s0_buf) rfl))<|WA.done kr ?_
 obtain rfl:=oi h
 refine WP.ret (OutS.one (L':=[.box c 33 [va0,d]]) rfl lr S rfl ?_)
 exact ⟨rfl,rfl⟩
end Go.Proofs
