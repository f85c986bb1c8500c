/- Part of the proof of WholeStep. -/
import Derived.Test.YtllbdpdnpaocnaaGreatDoorZBA
namespace Go.Proofs.YtllbdpdnpaocnaaGreatDoor
set_option linter.unusedSimpArgs false
set_option linter.unusedVariables false
set_option linter.constructorNameAsVariable false
open Go.RowKit Go.Maps
def toI (i:aX):InT:=⟨i.op,i.a,i.b,i.c⟩
def fv (op:Int):ByteArray:=if ek op=true then ⟨(lP.getD op.toNat []).toArray⟩ else ⟨#[]⟩
def gG (b:UInt8):Nat:=if b=119 then 0 else if b=112 then 2 else 1
theorem yC:∀k:Fin 22,aU (k.val:Int)=(lP.getD k.val []).map gG:=by decide
theorem mj {op:Int} (h:ek op=true):aU op=(fv op).data.toList.map gG:=by
 have h1:0≤op∧op < 22:=by simpa [ek] using h
 have h2:=yC ⟨op.toNat,by omega⟩;simp only [Int.toNat_of_nonneg h1.1] at h2;rw [h2,fv,if_pos h]
theorem wK:∀k:Fin 22,(lP.getD k.val []).length≤3:=by decide
theorem qj (op:Int):(fv op).size≤3:=by
 unfold fv;split
 ·rename_i h;have h1:0≤op∧op < 22:=by simpa [ek] using h
  have h2:=wK ⟨op.toNat,by omega⟩;simpa [ByteArray.size] using h2
 ·decide
theorem wL {op:Int} (h:ek op=true) {k:Nat} (hk:k < (fv op).size):(aU op)[k]?=some (gG (fv op)[k]):=by rw [mj h,List.getElem?_map,List.getElem?_eq_getElem (by rw [Array.length_toList];exact hk)];rfl
theorem wM {op:Int} (h:ek op=true) {k:Nat} (hk:¬k < (fv op).size):(aU op)[k]?=none:=by rw [mj h,List.getElem?_eq_none];rw [List.length_map,Array.length_toList];exact Nat.le_of_not_lt hk
theorem sQ (n:Int) (w:World):Calls Tryz.prog 92 #[.int .i64 n] w fun e w'=>e=.returned (.bool (ek n))∧w=w':=by
 obtain ⟨q,hq⟩:∃q,ek n=q:=⟨_,rfl⟩;rw [hq];have HQ:=aa hq;clear hq;go_enter Tryz.func92,Tryz.ntmps92;by_cases h1:0≤n
 ·by_cases h2:n < 22
  ·go_wp2_with fail
   go_ret;exact ⟨by rw [←HQ.out];simp [ek,h1,h2],rfl⟩
  ·go_wp2_with fail
   go_ret;exact ⟨by rw [←HQ.out];simp [ek,h1,h2],rfl⟩
 ·go_wp2_with fail
  go_ret;exact ⟨by rw [←HQ.out];simp [ek,h1];try omega,rfl⟩
theorem rZ (n:Int) (w:World):Calls Tryz.prog 95 #[.int .i64 n] w fun e w'=>e=.returned (.bool (ix n))∧w=w':=by
 obtain ⟨q,hq⟩:∃q,ix n=q:=⟨_,rfl⟩;rw [hq];have HQ:=aa hq;clear hq;go_enter Tryz.func95,Tryz.ntmps95;by_cases h1 : -2147483648≤n
 ·by_cases h2:n≤2147483647
  ·go_wp2_with fail
   go_ret;exact ⟨by rw [←HQ.out];simp [ix,h1,h2],rfl⟩
  ·go_wp2_with fail
   go_ret;exact ⟨by rw [←HQ.out];simp [ix,h1,h2],rfl⟩
 ·go_wp2_with fail
  go_ret;exact ⟨by rw [←HQ.out];simp [ix,h1];try omega,rfl⟩
set_option maxRecDepth 20000 in
theorem ml (w:World) (i:aX) (hL:cX w):Calls Tryz.prog 93 #[.agg (ay i).toArray] w fun e w'=>e=.returned (.string (fv i.op))∧Below w.heap.size w w':=by
 obtain ⟨z,hz⟩:∃z,w.heap.size=z:=⟨_,rfl⟩;obtain ⟨w1,hw1⟩:∃w1,w.alloc (.cells (ay i).toArray 51)=w1:=⟨_,rfl⟩;have hk:Bk w1 z 51 (ay i):=hw1▸Bk.at_ w _ _ hz rfl;have hb:Below w.heap.size w w1:=hw1▸ai w _;have c0:w1.cell? ⟨z,0,none⟩=some (.int .i64 i.op):=hk.cell 0;obtain ⟨s,hs⟩:∃s,fv i.op=s:=⟨_,rfl⟩;rw [hs];have HW:=aa hw1;have HB:=aa hb;have HZ:=aa hz;have HL:=aa (hL.later hb);have HS:=aa hs;clear hk hw1 hz hb hL hs;go_enter Tryz.func93,Tryz.ntmps93;go_upto_region 1 with fail
 rw [HW.out,HZ.out];go_wp2_with fail
 refine (sQ _ w1).mono ?_;rintro e w' ⟨rfl,rfl⟩;cases ho:ek i.op with
 | false=>
  go_wp2_with fail
  go_ret;have e1:s=⟨#[]⟩:=by rw [←HS.out,fv,if_neg (by rw [ho];decide)]
  subst e1;exact ⟨rfl,HB.out⟩
 | true=>
  have h1:0≤i.op∧i.op < 22:=by simpa [ek] using ho
  obtain ⟨k,hk⟩:∃k:Nat,i.op=k:=⟨i.op.toNat,by omega⟩;have hk2:k < 22:=by omega
  obtain ⟨x,hx⟩:∃x,lP[k]?=some x:=⟨lP[k]'(by show k < 22;exact hk2),List.getElem?_eq_getElem _⟩;have hop:=HL.op k x hx;have hki:(k:Int) < 22:=by omega
  rw [hk] at c0;have HS2:Hid (s=⟨x.toArray⟩):=by show _=_;rw [←HS.out,fv,if_pos ho,hk,Int.toNat_natCast,List.getD_eq_getElem?_getD,hx];rfl
  clear h1 hx;go_wp2_with fail
  go_ret;have e1:=HS2.out;subst e1;exact ⟨rfl,HB.out⟩
theorem wN (a b c:Int) (w:World):(Instr.build 169 #[(0,.int .i64 a),(1,.int .i64 b),(2,.int .i64 c)]).run Tryz.prog w=.ok (.agg [.int .i64 a,.int .i64 b,.int .i64 c].toArray) w:=by kernel_rfl
theorem oL (a b c:Int):(Tryz.prog.info? 169).map (·.size)=some ([.int .i64 a,.int .i64 b,.int .i64 c]:List Value).length:=(show (Tryz.prog.info? 169).map (·.size)=some 3 by kernel_rfl)
set_option maxRecDepth 20000 in
theorem nA (w:World) (i:aX):Calls Tryz.prog 94 #[.agg (ay i).toArray] w fun e w'=>e=.returned (.agg [.int .i64 i.a,.int .i64 i.b,.int .i64 i.c].toArray)∧Below w.heap.size w w':=by
 obtain ⟨z,hz⟩:∃z,w.heap.size=z:=⟨_,rfl⟩;obtain ⟨w1,hw1⟩:∃w1,(w.alloc (.cells (ay i).toArray 51)).alloc (.cells #[.int .i64 0,.int .i64 0,.int .i64 0] 169)=w1:=⟨_,rfl⟩;have hk:Bk w1 z 51 (ay i):=hw1▸(Bk.at_ w _ _ hz rfl).alloc _;have hr:Bk w1 (z+1) 169 [.int .i64 0,.int .i64 0,.int .i64 0]:=hw1▸Bk.at_ _ _ _ (by simp [hz]) rfl;have hb:Below w.heap.size w w1:=hw1▸(ai w _).alloc (by simp) _;have c1:w1.cell? ⟨z,1,none⟩=some (.int .i64 i.a):=hk.cell 1;have c2:w1.cell? ⟨z,2,none⟩=some (.int .i64 i.b):=hk.cell 2;have c3:w1.cell? ⟨z,3,none⟩=some (.int .i64 i.c):=hk.cell 3;have HW:=aa hw1;have HB:=aa hb;have HZ:=aa hz;have HR:=aa hr;have HBD:=wN i.a i.b i.c;clear hk hw1 hz hb hr;go_enter Tryz.func94,Tryz.ntmps94;go_upto_region 1 with fail
 rw [HW.out,HZ.out];go_wp2_with (with_reducible refine ah 169 _ _ rfl ?_)
 refine ak.go ?_;refine ae rfl 169 _ _ rfl (z+1) 0 (.agg [.int .i64 i.a,.int .i64 i.b,.int .i64 i.c].toArray) [.int .i64 i.a,.int .i64 i.b,.int .i64 i.c] rfl rfl rfl 169 [] [.int .i64 0,.int .i64 0,.int .i64 0] [] (by simpa using HR.out) rfl rfl (oL _ _ _) (by intro v hv;simp at hv;rcases hv with rfl | rfl | rfl <;> rfl) ?_;intro w4 hp;have hbk:Bk w4 (z+1) 169 [.int .i64 i.a,.int .i64 i.b,.int .i64 i.c]:=by have:=hp.bk;simpa using this
 have HBK:=aa hbk;have HB4:Hid (Below w.heap.size w w4):=ag HB.out hp.only HB.size (by have:=HZ.out;omega);clear hp hbk;go_wp2_with fail
 refine bodyPost_ret (am rfl _ _ (z+1) 169 [.int .i64 i.a,.int .i64 i.b,.int .i64 i.c] _ rfl HBK.out Tryz.underlying169 rfl (oL _ _ _)) rfl ?_;exact ⟨rfl,HB4.out⟩
def dI (i:aX) (k:Nat):Int:=if k=0 then i.a else if k=1 then i.b else i.c
def yD (i:aX) (size words:Int) (k:Nat):Prop:=∀j,j < k→dF ((aU i.op)[j]?) (dI i j) size words=true
theorem jh {i:aX} {size words:Int} {k:Nat} (h:yD i size words k) (hk:dF ((aU i.op)[k]?) (dI i k) size words=true):yD i size words (k+1):=fun j hj=>by
 by_cases e:j=k
 ·subst e;exact hk
 ·exact h j (by omega)
theorem fM {i:aX} {size words:Int} {k:Nat} (hk:k < 3) (h:dF ((aU i.op)[k]?) (dI i k) size words=false):cw (toI i) size words=false:=by
 cases hr:cw (toI i) size words with
 | false=>rfl
 | true=>
  have:=fo hr;have:k=0∨k=1∨k=2:=by omega
  rcases this with rfl | rfl | rfl <;> simp_all [dI,toI]
theorem uo {i:aX} {size words:Int} (ho:ek i.op=true) (h:yD i size words 3):cw (toI i) size words=(if i.op=0 then decide (i.a=0∨i.a=1) else if i.op=17 then decide (i.b≤i.c) else if i.op=18 then decide (0≤i.c) else true):=by
 have h0:=h 0 (by omega);have h1:=h 1 (by omega);have h2:=h 2 (by omega);simp only [dI,if_true] at h0 h1 h2;unfold cw;show (ek i.op && (dF ((aU i.op)[0]?) i.a size words && (dF ((aU i.op)[1]?) i.b size words && (dF ((aU i.op)[2]?) i.c size words && _))))=_;rw [ho,h0];have h1' : dF ((aU i.op)[1]?) i.b size words=true:=by simpa using h1
 have h2' : dF ((aU i.op)[2]?) i.c size words=true:=by simpa using h2
 rw [h1',h2'];rfl
theorem up {i:aX} {size words:Int} (ho:ek i.op=false):cw (toI i) size words=false:=by unfold cw;show (ek i.op && _)=_;rw [ho];rfl
theorem AN (i:aX) {k:Nat} (hk:k < 3):([Value.int .i64 i.a,.int .i64 i.b,.int .i64 i.c].toArray)[k]?=some (.int .i64 (dI i k)):=by
 have:k=0∨k=1∨k=2:=by omega
 rcases this with rfl | rfl | rfl <;> rfl
theorem AO (i:aX) {k:Nat} (hk:k < 3) (w:World):(Instr.index 169 (.agg [.int .i64 i.a,.int .i64 i.b,.int .i64 i.c].toArray) (.int .i64 (k:Int))).run Tryz.prog w=.ok (.int .i64 (dI i k)) w:=
 fd 169 3 3 _ .i64 k _ Tryz.underlying169 (by kernel_rfl) hk (AN i hk) (fun w=>by simp [isAgg,run_underlying Tryz.underlying3]) w
theorem r8 {n size words:Int} : dF (some (gG 119)) n size words=decide (0≤n∧n < words):=rfl
theorem sa {n size words:Int} : dF (some (gG 112)) n size words=decide (0≤n∧n < size):=rfl
theorem wO {b:UInt8} (h1:b≠119) (h2:b≠112) {n size words:Int} : dF (some (gG b)) n size words=ix n:=by unfold gG;rw [if_neg h1,if_neg h2];rfl
set_option maxRecDepth 20000 in
set_option maxHeartbeats 1000000 in
theorem mm (w:World) (i:aX) (size words:Int) (hL:cX w):Calls Tryz.prog 46 #[.agg (ay i).toArray,.int .i64 size,.int .i64 words] w fun e w'=>e=.returned (.bool (cw (toI i) size words))∧Below w.heap.size w w':=by
 obtain ⟨z,hz⟩:∃z,w.heap.size=z:=⟨_,rfl⟩;obtain ⟨w1,hw1⟩:∃w1,w.alloc (.cells (ay i).toArray 51)=w1:=⟨_,rfl⟩;have hk:Bk w1 z 51 (ay i):=hw1▸Bk.at_ w _ _ hz rfl;have hb:Below w.heap.size w w1:=hw1▸ai w _;have c0:w1.cell? ⟨z,0,none⟩=some (.int .i64 i.op):=hk.cell 0;obtain ⟨q,hq⟩:∃q,cw (toI i) size words=q:=⟨_,rfl⟩;rw [hq];have HW:=aa hw1;have HB:=aa hb;have HZ:=aa hz;have HL:=aa (hL.later hb);have HK:=aa hk;have HQ:=aa hq;clear hk hw1 hz hb hL hq;go_enter Tryz.func46,Tryz.ntmps46;go_upto_region 1 with fail
 rw [HW.out,HZ.out];go_wp2_with fail
 refine (sQ _ w1).mono ?_;rintro e w' ⟨rfl,rfl⟩;cases ho:ek i.op with
 | false=>
  go_wp2_with fail
  go_ret;obtain rfl:q=false:=by rw [←HQ.out];exact up ho
  exact ⟨rfl,HB.out⟩
 | true=>
  clear c0;go_wp2_with (with_reducible refine aj rfl 51 _ rfl z rfl (ay i) 51 HK.out _ Tryz.underlying51 rfl (aW i) ?_)
  refine (ml w1 i HL.out).mono ?_;rintro e w2 ⟨rfl,hbn⟩;have HK2:=aa (HK.later hbn);have HB2:=aa (ab HB.out hbn);clear hbn;obtain ⟨s,hs⟩:∃s,fv i.op=s:=⟨_,rfl⟩;have HS:Hid (s.size≤3∧(∀(k:Nat) (h:k < s.size),(aU i.op)[k]?=some (gG s[k]))∧(∀k:Nat,¬k < s.size→(aU i.op)[k]?=none)):=by subst hs;exact ⟨qj _,fun k h=>wL ho h,fun k h=>wM ho h⟩
  rw [hs];clear hs;go_wp2_with (with_reducible refine aj rfl 51 _ rfl z rfl (ay i) 51 HK2.out _ Tryz.underlying51 rfl (aW i) ?_)
  refine (nA w2 i).mono ?_;rintro e w3 ⟨rfl,hbn⟩;have HK3:=aa (HK2.later hbn);have HB3:=aa (ab HB2.out hbn);clear hbn;go_wp2_with fail
  go_loopw [8,9,10,19,34,43] (fun _ _ _ j _ _ wr=>∃k:Nat,k≤3∧j=.int .i64 k∧Hid (yD i size words k)∧Hid (Below w3.heap.size w3 wr)) (fun _ _ _ j _ _ _=>3 - (intOf j).toNat)
  case atStart=>exact ⟨0,by omega,rfl,fun j hj=>absurd hj (by omega),Below.refl _ _⟩
  case round=>
   obtain ⟨k,hk,rfl,hA,hB⟩:=hrel;have HBr:=aa (ab HB3.out hB.out);by_cases hlt:k < 3
   ·have hix:=AO i hlt;obtain ⟨n,hn⟩:∃n,dI i k=n:=⟨_,rfl⟩;rw [hn] at hix;have HN:=aa hn;clear hn;have hk3:(k:Int) < 3:=by omega
    by_cases hks:k < s.size
    ·have hks' : (k:Int) < s.size:=by omega
     have hat:=HS.out.2.1 k hks;obtain ⟨b,hb⟩:∃b,s[k]=b:=⟨_,rfl⟩;rw [hb] at hat;have HAT:=aa hat;clear hat;by_cases hw:(b.toNat:Int)=119
     ·have e1:b=119:=by
       have:b.toNat=119:=by omega
       exact UInt8.toNat_inj.1 this
      by_cases h0:0≤n
      ·by_cases h1:n < words
       ·
        go_wp2_with fail
        go_roundw
        case rel=>exact ⟨k+1,by omega,by go_num,jh hA.out (by rw [HN.out];rw [HAT.out,e1,r8];simp [h0,h1]),hB.out⟩
        case measure=>simp [intOf];omega
       ·
        go_wp2_with fail
        go_ret;obtain rfl:q=false:=by rw [←HQ.out];exact fM hlt (by rw [HN.out];rw [HAT.out,e1,r8];simp [h0,h1])
        exact ⟨rfl,HBr.out⟩
      ·
       go_wp2_with fail
       go_ret;obtain rfl:q=false:=by rw [←HQ.out];exact fM hlt (by rw [HN.out];rw [HAT.out,e1,r8];simp;omega)
       exact ⟨rfl,HBr.out⟩
     ·by_cases hp:(b.toNat:Int)=112
      ·have e1:b=112:=by
        have:b.toNat=112:=by omega
        exact UInt8.toNat_inj.1 this
       by_cases h0:0≤n
       ·by_cases h1:n < size
        ·
         go_wp2_with fail
         go_roundw
         case rel=>exact ⟨k+1,by omega,by go_num,jh hA.out (by rw [HN.out];rw [HAT.out,e1,sa];simp [h0,h1]),hB.out⟩
         case measure=>simp [intOf];omega
        ·
         go_wp2_with fail
         go_ret;obtain rfl:q=false:=by rw [←HQ.out];exact fM hlt (by rw [HN.out];rw [HAT.out,e1,sa];simp [h0,h1])
         exact ⟨rfl,HBr.out⟩
       ·
        go_wp2_with fail
        go_ret;obtain rfl:q=false:=by rw [←HQ.out];exact fM hlt (by rw [HN.out];rw [HAT.out,e1,sa];simp;omega)
        exact ⟨rfl,HBr.out⟩
      ·have e1:b≠119:=fun e=>hw (by rw [e];rfl);have e2:b≠112:=fun e=>hp (by rw [e];rfl);go_wp2_with fail
       refine (rZ n wr).mono ?_;rintro e w' ⟨rfl,rfl⟩;cases h3:ix n with
       | true=>
        go_wp2_with fail
        go_roundw
        case rel=>exact ⟨k+1,by omega,by go_num,jh hA.out (by rw [HN.out];rw [HAT.out,wO e1 e2];exact h3),hB.out⟩
        case measure=>simp [intOf];omega
       | false=>
        go_wp2_with fail
        go_ret;obtain rfl:q=false:=by rw [←HQ.out];exact fM hlt (by rw [HN.out];rw [HAT.out,wO e1 e2];exact h3)
        exact ⟨rfl,HBr.out⟩
    ·have hks' : ¬((k:Int) < s.size):=by omega
     have HAT:=aa (HS.out.2.2 k hks);cases h0:(n == 0) with
     | true=>
      go_wp2_with fail
      go_roundw
      case rel=>exact ⟨k+1,by omega,by go_num,jh hA.out (by rw [HN.out];rw [HAT.out];have h0:=eq_of_beq h0;simp [dF,h0]),hB.out⟩
      case measure=>simp [intOf];omega
     | false=>
      go_wp2_with fail
      go_ret;obtain rfl:q=false:=by rw [←HQ.out];exact fM hlt (by rw [HN.out];rw [HAT.out];have h0:=ne_of_beq_false h0;simp [dF,h0])
      exact ⟨rfl,HBr.out⟩
   ·obtain rfl:k=3:=by omega
    have HR:=aa (uo ho hA.out);rw [HQ.out] at HR;have c0:wr.cell? ⟨z,0,none⟩=some (.int .i64 i.op):=(HK3.later hB.out).cell 0;have c1:wr.cell? ⟨z,1,none⟩=some (.int .i64 i.a):=(HK3.later hB.out).cell 1;have c2:wr.cell? ⟨z,2,none⟩=some (.int .i64 i.b):=(HK3.later hB.out).cell 2;have c3:wr.cell? ⟨z,3,none⟩=some (.int .i64 i.c):=(HK3.later hB.out).cell 3;by_cases h0:i.op=0
    ·by_cases h1:i.a=0
     ·
      go_wp2_with fail
      go_ret;obtain rfl:q=true:=by rw [HR.out];simp [h0,h1]
      exact ⟨rfl,HBr.out⟩
     ·cases h2:(i.a == 1) with
      | true=>
       go_wp2_with fail
       go_ret;obtain rfl:q=true:=by rw [HR.out];have h2:=eq_of_beq h2;simp [h0,h2]
       exact ⟨rfl,HBr.out⟩
      | false=>
       go_wp2_with fail
       go_ret;obtain rfl:q=false:=by rw [HR.out];have h2:=ne_of_beq_false h2;simp [h0,h1,h2]
       exact ⟨rfl,HBr.out⟩
    ·by_cases h1:i.op=17
     ·by_cases h2:i.b≤i.c
      ·
       go_wp2_with fail
       go_ret;obtain rfl:q=true:=by rw [HR.out];simp [h1,h2]
       exact ⟨rfl,HBr.out⟩
      ·
       go_wp2_with fail
       go_ret;obtain rfl:q=false:=by rw [HR.out];simp [h1,h2];try omega
       exact ⟨rfl,HBr.out⟩
     ·by_cases h2:i.op=18
      ·by_cases h3:0≤i.c
       ·
        go_wp2_with fail
        go_ret;obtain rfl:q=true:=by rw [HR.out];simp [h2,h3]
        exact ⟨rfl,HBr.out⟩
       ·
        go_wp2_with fail
        go_ret;obtain rfl:q=false:=by rw [HR.out];simp [h2,h3];try omega
        exact ⟨rfl,HBr.out⟩
      ·
       go_wp2_with fail
       go_ret;obtain rfl:q=true:=by rw [HR.out];simp [h0,h1,h2]
       exact ⟨rfl,HBr.out⟩
theorem eE (b:Bool) (w:World):Calls Tryz.prog 142 #[.bool b] w fun e w'=>e=.returned (.int .i32 (cN b))∧w=w':=by
 go_enter Tryz.func142,Tryz.ntmps142;cases b
 ·go_wp2_with fail
  go_ret;exact ⟨rfl,rfl⟩
 ·go_wp2_with fail
  go_ret;exact ⟨rfl,rfl⟩
theorem w32 (x:Int):wrap32 x=cg x:=by unfold wrap32 cg;rfl
theorem wP (x y:Int) (w:World):Calls Tryz.prog 136 #[.int .i32 x,.int .i32 y] w fun e w'=>e=.returned (.int .i32 (cg (x+y)))∧w=w':=by
 go_enter Tryz.func136,Tryz.ntmps136;go_wp2_with fail
 go_ret;exact ⟨by first | rfl | (show Ending.returned (Value.int .i32 _)=_;rw [w32]),rfl⟩
theorem wQ (x y:Int) (w:World):Calls Tryz.prog 137 #[.int .i32 x,.int .i32 y] w fun e w'=>e=.returned (.int .i32 (cg (x - y)))∧w=w':=by
 go_enter Tryz.func137,Tryz.ntmps137;go_wp2_with fail
 go_ret;exact ⟨by first | rfl | (show Ending.returned (Value.int .i32 _)=_;rw [w32]),rfl⟩
theorem wR (x y:Int) (w:World):Calls Tryz.prog 138 #[.int .i32 x,.int .i32 y] w fun e w'=>e=.returned (.int .i32 (cg (x*y)))∧w=w':=by
 go_enter Tryz.func138,Tryz.ntmps138;go_wp2_with fail
 go_ret;exact ⟨by first | rfl | (show Ending.returned (Value.int .i32 _)=_;rw [w32]),rfl⟩
theorem wS (x y:Int) (w:World):Calls Tryz.prog 139 #[.int .i32 x,.int .i32 y] w fun e w'=>e=.returned (.int .i32 (if y=0 then 0 else cg (x.tdiv y)))∧w=w':=by
 cases h:(y == 0) with
 | true=>
  obtain rfl:=eq_of_beq h;go_enter Tryz.func139,Tryz.ntmps139;go_wp2_with fail
  go_ret;exact ⟨rfl,rfl⟩
 | false=>
  have h':=ne_of_beq_false h;rw [if_neg h'];go_enter Tryz.func139,Tryz.ntmps139;go_wp2_with fail
  go_ret;exact ⟨by first | rfl | (show Ending.returned (Value.int .i32 _)=_;rw [w32]),rfl⟩
theorem wT (x y:Int) (w:World):Calls Tryz.prog 140 #[.int .i32 x,.int .i32 y] w fun e w'=>e=.returned (.int .i32 (if y=0 then 0 else x.tmod y))∧w=w':=by
 cases h:(y == 0) with
 | true=>
  obtain rfl:=eq_of_beq h;go_enter Tryz.func140,Tryz.ntmps140;go_wp2_with fail
  go_ret;exact ⟨rfl,rfl⟩
 | false=>
  have h':=ne_of_beq_false h;rw [if_neg h'];go_enter Tryz.func140,Tryz.ntmps140;go_wp2_with fail
  go_ret;exact ⟨by first | rfl | (show Ending.returned (Value.int .i32 _)=_;rw [w32]),rfl⟩
theorem wU (x y:Int):decide (x=y)=(x == y):=rfl
theorem mn (x y:Int):decide (x≠y)=(x != y):=by rw [bne,←wU];by_cases h:x=y <;> simp [h]
theorem yE (x y:Int):decide (x≠0∧y≠0)=((x != 0) && (y != 0)):=by rw [←mn,←mn];by_cases h:x=0 <;> by_cases k:y=0 <;> simp [h,k]
theorem Ae (x y:Int):decide (x≠0∨y≠0)=((x != 0) || (y != 0)):=by rw [←mn,←mn];by_cases h:x=0 <;> by_cases k:y=0 <;> simp [h,k]
theorem wV (x y:Int) (w:World):Calls Tryz.prog 141 #[.int .i32 x,.int .i32 y] w fun e w'=>e=.returned (.int .i32 (cN (decide (x=y))))∧w=w':=by
 rw [show decide (x=y)=(x == y) from wU x y];have HT:=aa (fun b=>eE b w);cases h:(x == y);all_goals
  go_enter Tryz.func141,Tryz.ntmps141;go_wp2_with fail
  refine (HT.out _).mono ?_;rintro e w' ⟨rfl,rfl⟩;go_wp2_with fail
  go_ret;exact ⟨rfl,rfl⟩
theorem wW (x y:Int) (w:World):Calls Tryz.prog 143 #[.int .i32 x,.int .i32 y] w fun e w'=>e=.returned (.int .i32 (cN (decide (x≠y))))∧w=w':=by
 rw [show decide (x≠y)=(x != y) from mn x y];have HT:=aa (fun b=>eE b w);cases h:(x != y);all_goals
  go_enter Tryz.func143,Tryz.ntmps143;go_wp2_with fail
  refine (HT.out _).mono ?_;rintro e w' ⟨rfl,rfl⟩;go_wp2_with fail
  go_ret;exact ⟨rfl,rfl⟩
theorem wX (x y:Int) (w:World):Calls Tryz.prog 144 #[.int .i32 x,.int .i32 y] w fun e w'=>e=.returned (.int .i32 (cN (decide (x < y))))∧w=w':=by
 rw [show decide (x < y)=(decide (x < y)) from rfl];have HT:=aa (fun b=>eE b w)
 (cases h:decide (x < y) <;> (have h':=h;simp only [decide_eq_true_eq,decide_eq_false_iff_not] at h'))
 all_goals
  go_enter Tryz.func144,Tryz.ntmps144;go_wp2_with fail
  refine (HT.out _).mono ?_;rintro e w' ⟨rfl,rfl⟩;go_wp2_with fail
  go_ret;exact ⟨rfl,rfl⟩
theorem wY (x y:Int) (w:World):Calls Tryz.prog 145 #[.int .i32 x,.int .i32 y] w fun e w'=>e=.returned (.int .i32 (cN (decide (x≤y))))∧w=w':=by
 rw [show decide (x≤y)=(decide (x≤y)) from rfl];have HT:=aa (fun b=>eE b w)
 (cases h:decide (x≤y) <;> (have h':=h;simp only [decide_eq_true_eq,decide_eq_false_iff_not] at h'))
 all_goals
  go_enter Tryz.func145,Tryz.ntmps145;go_wp2_with fail
  refine (HT.out _).mono ?_;rintro e w' ⟨rfl,rfl⟩;go_wp2_with fail
  go_ret;exact ⟨rfl,rfl⟩
theorem uq (x y:Int) (w:World):Calls Tryz.prog 146 #[.int .i32 x,.int .i32 y] w fun e w'=>e=.returned (.int .i32 (cN (decide (x≠0∧y≠0))))∧w=w':=by
 rw [show decide (x≠0∧y≠0)=((x != 0) && (y != 0)) from yE x y];have HT:=aa (fun b=>eE b w);cases h:(x != 0) <;> cases k:(y != 0)
 all_goals
  go_enter Tryz.func146,Tryz.ntmps146;go_wp2_with fail
  refine (HT.out _).mono ?_;rintro e w' ⟨rfl,rfl⟩;go_wp2_with fail
  go_ret;exact ⟨rfl,rfl⟩
theorem ur (x y:Int) (w:World):Calls Tryz.prog 147 #[.int .i32 x,.int .i32 y] w fun e w'=>e=.returned (.int .i32 (cN (decide (x≠0∨y≠0))))∧w=w':=by
 rw [show decide (x≠0∨y≠0)=(or (x != 0) (y != 0)) from Ae x y];have HT:=aa (fun b=>eE b w);cases h:(x != 0) <;> cases k:(y != 0)
 all_goals
  go_enter Tryz.func147,Tryz.ntmps147;go_wp2_with fail
  refine (HT.out _).mono ?_;rintro e w' ⟨rfl,rfl⟩;go_wp2_with fail
  go_ret;exact ⟨rfl,rfl⟩
theorem yF (w:World):(zeroValue 218).run Tryz.prog w=.ok .nilFunc w:=by kernel_rfl
def cG:List (Int × Nat):=[(3,136),(4,137),(5,138),(6,139),(7,140),(8,141),(9,143),(10,144),(11,145),(12,146),(13,147)]
theorem AQ {j:Nat} (h3:3≤j) (hj:j≤13):∃f:Nat,(fnD cG).atKey (.int .i64 (j:Int)) (.lit (.bool false))=.lit (.int .i64 f)∧(∀(args:Array Value) (w:World),(callFunc f args).run Tryz.prog w=.ok (.enter f args) w)∧∀(x y:Int) (w:World),Calls Tryz.prog f #[.int .i32 x,.int .i32 y] w fun e w'=>e=.returned (.int .i32 (nc j x y))∧w=w':=by
 have:j=3∨j=4∨j=5∨j=6∨j=7∨j=8∨j=9∨j=10∨j=11∨j=12∨j=13:=by omega
 rcases this with rfl | rfl | rfl | rfl | rfl | rfl | rfl | rfl | rfl | rfl | rfl
 ·exact ⟨_,by kernel_rfl,fun args w=>by kernel_rfl,fun x y w=>wP x y w⟩
 ·exact ⟨_,by kernel_rfl,fun args w=>by kernel_rfl,fun x y w=>wQ x y w⟩
 ·exact ⟨_,by kernel_rfl,fun args w=>by kernel_rfl,fun x y w=>wR x y w⟩
 ·exact ⟨_,by kernel_rfl,fun args w=>by kernel_rfl,fun x y w=>wS x y w⟩
 ·exact ⟨_,by kernel_rfl,fun args w=>by kernel_rfl,fun x y w=>wT x y w⟩
 ·exact ⟨_,by kernel_rfl,fun args w=>by kernel_rfl,fun x y w=>wV x y w⟩
 ·exact ⟨_,by kernel_rfl,fun args w=>by kernel_rfl,fun x y w=>wW x y w⟩
 ·exact ⟨_,by kernel_rfl,fun args w=>by kernel_rfl,fun x y w=>wX x y w⟩
 ·exact ⟨_,by kernel_rfl,fun args w=>by kernel_rfl,fun x y w=>wY x y w⟩
 ·exact ⟨_,by kernel_rfl,fun args w=>by kernel_rfl,fun x y w=>uq x y w⟩
 ·exact ⟨_,by kernel_rfl,fun args w=>by kernel_rfl,fun x y w=>ur x y w⟩
set_option maxRecDepth 20000 in
theorem ut (w:World):Calls Tryz.prog 76 #[] w fun e w'=>(∃b,e=.returned (.map (some b))∧cZ cG w' b∧w.heap.size≤b)∧Below w.heap.size w w':=by
 obtain ⟨z,hz⟩:∃z,w.heap.size=z:=⟨_,rfl⟩;obtain ⟨w0,hw0⟩:∃w0,w.alloc (.map #[] 0)=w0:=⟨_,rfl⟩;have hmm:=run_makeMap (P:=Tryz.prog) 149 w;rw [hw0,hz] at hmm;have HB0:Hid (Below w.heap.size w w0):=hw0▸ai w _;have HZ:=aa hz;have HM0:Hid (World.ownsMap (H:=Unit) w0 Tryz.prog 3 fnR z 0 (fnD (cG.take 0))):=by show World.ownsMap _ _ _ _ _ _ _;rw [←hw0,←hz];exact World.ownsMap_made w _ _ _
 clear hw0 hz;go_enter Tryz.func76,Tryz.ntmps76;go_wp2_with (refine aG (cG.take 0) _ _ Tryz.underlying149 rfl _ _ _ rfl z rfl rfl rfl (by decide) 0 HM0.out (by decide) ?_;intro w1 hm9 hg9;have HM1:Hid (World.ownsMap (H:=Unit) w1 Tryz.prog 3 fnR z 1 (fnD (cG.take 1))):=hm9;have HB1:=aa (ag HB0.out hg9 HB0.size (by have:=HZ.out;omega));clear hm9 hg9)
 refine ak.go ?_;go_wp2_with (refine aG (cG.take 1) _ _ Tryz.underlying149 rfl _ _ _ rfl z rfl rfl rfl (by decide) 1 HM1.out (by decide) ?_;intro w2 hm9 hg9;have HM2:Hid (World.ownsMap (H:=Unit) w2 Tryz.prog 3 fnR z 2 (fnD (cG.take 2))):=hm9;have HB2:=aa (ag HB1.out hg9 HB1.size (by have:=HZ.out;omega));clear hm9 hg9)
 refine ak.go ?_;go_wp2_with (refine aG (cG.take 2) _ _ Tryz.underlying149 rfl _ _ _ rfl z rfl rfl rfl (by decide) 2 HM2.out (by decide) ?_;intro w3 hm9 hg9;have HM3:Hid (World.ownsMap (H:=Unit) w3 Tryz.prog 3 fnR z 3 (fnD (cG.take 3))):=hm9;have HB3:=aa (ag HB2.out hg9 HB2.size (by have:=HZ.out;omega));clear hm9 hg9)
 refine ak.go ?_;go_wp2_with (refine aG (cG.take 3) _ _ Tryz.underlying149 rfl _ _ _ rfl z rfl rfl rfl (by decide) 3 HM3.out (by decide) ?_;intro w4 hm9 hg9;have HM4:Hid (World.ownsMap (H:=Unit) w4 Tryz.prog 3 fnR z 4 (fnD (cG.take 4))):=hm9;have HB4:=aa (ag HB3.out hg9 HB3.size (by have:=HZ.out;omega));clear hm9 hg9)
 refine ak.go ?_;go_wp2_with (refine aG (cG.take 4) _ _ Tryz.underlying149 rfl _ _ _ rfl z rfl rfl rfl (by decide) 4 HM4.out (by decide) ?_;intro w5 hm9 hg9;have HM5:Hid (World.ownsMap (H:=Unit) w5 Tryz.prog 3 fnR z 5 (fnD (cG.take 5))):=hm9;have HB5:=aa (ag HB4.out hg9 HB4.size (by have:=HZ.out;omega));clear hm9 hg9)
 refine ak.go ?_;go_wp2_with (refine aG (cG.take 5) _ _ Tryz.underlying149 rfl _ _ _ rfl z rfl rfl rfl (by decide) 5 HM5.out (by decide) ?_;intro w6 hm9 hg9;have HM6:Hid (World.ownsMap (H:=Unit) w6 Tryz.prog 3 fnR z 6 (fnD (cG.take 6))):=hm9;have HB6:=aa (ag HB5.out hg9 HB5.size (by have:=HZ.out;omega));clear hm9 hg9)
 refine ak.go ?_;go_wp2_with (refine aG (cG.take 6) _ _ Tryz.underlying149 rfl _ _ _ rfl z rfl rfl rfl (by decide) 6 HM6.out (by decide) ?_;intro w7 hm9 hg9;have HM7:Hid (World.ownsMap (H:=Unit) w7 Tryz.prog 3 fnR z 7 (fnD (cG.take 7))):=hm9;have HB7:=aa (ag HB6.out hg9 HB6.size (by have:=HZ.out;omega));clear hm9 hg9)
 refine ak.go ?_;go_wp2_with (refine aG (cG.take 7) _ _ Tryz.underlying149 rfl _ _ _ rfl z rfl rfl rfl (by decide) 7 HM7.out (by decide) ?_;intro w8 hm9 hg9;have HM8:Hid (World.ownsMap (H:=Unit) w8 Tryz.prog 3 fnR z 8 (fnD (cG.take 8))):=hm9;have HB8:=aa (ag HB7.out hg9 HB7.size (by have:=HZ.out;omega));clear hm9 hg9)
 refine ak.go ?_;go_wp2_with (refine aG (cG.take 8) _ _ Tryz.underlying149 rfl _ _ _ rfl z rfl rfl rfl (by decide) 8 HM8.out (by decide) ?_;intro w9 hm9 hg9;have HM9:Hid (World.ownsMap (H:=Unit) w9 Tryz.prog 3 fnR z 9 (fnD (cG.take 9))):=hm9;have HB9:=aa (ag HB8.out hg9 HB8.size (by have:=HZ.out;omega));clear hm9 hg9)
 refine ak.go ?_;go_wp2_with (refine aG (cG.take 9) _ _ Tryz.underlying149 rfl _ _ _ rfl z rfl rfl rfl (by decide) 9 HM9.out (by decide) ?_;intro w10 hm9 hg9;have HM10:Hid (World.ownsMap (H:=Unit) w10 Tryz.prog 3 fnR z 10 (fnD (cG.take 10))):=hm9;have HB10:=aa (ag HB9.out hg9 HB9.size (by have:=HZ.out;omega));clear hm9 hg9)
 refine ak.go ?_;go_wp2_with (refine aG (cG.take 10) _ _ Tryz.underlying149 rfl _ _ _ rfl z rfl rfl rfl (by decide) 10 HM10.out (by decide) ?_;intro w11 hm9 hg9;have HM11:Hid (World.ownsMap (H:=Unit) w11 Tryz.prog 3 fnR z 11 (fnD (cG.take 11))):=hm9;have HB11:=aa (ag HB10.out hg9 HB10.size (by have:=HZ.out;omega));clear hm9 hg9)
 refine ak.go ?_;go_wp2_with fail
 go_ret;exact ⟨⟨z,rfl,⟨11,HM11.out⟩,Nat.le_of_eq HZ.out⟩,HB11.out⟩
structure oM (w:World) (z:Nat) (A:Option Addr) (C:Nat) (s:MsT):Prop where
 bk:Bk w z 38 (aF s.pc (.slice A s.mem.length C) s.halt)
 mem:Sl w w.heap.size 1 A s.mem.length (s.mem.map (.int .i32))
 ok:eF s
theorem oM.later {w w' : World} {z:Nat} {A:Option Addr} {C:Nat} {s:MsT} (h:oM w z A C s) (hb:Below w.heap.size w w'):oM w' z A C s:=⟨h.bk.later hb,h.mem.later hb,h.ok⟩
theorem kN {m:List Int} {j:Nat} (h:j < m.length):m[j]?=some (br m (j:Int)):=by unfold br;rw [Int.toNat_natCast,List.getD_eq_getElem?_getD,List.getElem?_eq_getElem h];rfl
theorem qk {w:World} {B C:Nat} {A:Option Addr} {m:List Int} (h:Sl w B 1 A m.length (m.map (.int .i32))) (h1:1≤m.length):∃b o,A=some ⟨b,o,none⟩∧b < B∧∀j:Nat,j < m.length→w.cell? ⟨b,o+j,none⟩=some (.int .i32 (br m (j:Int))):=by obtain ⟨b,o,hA,hb,hc⟩:=h.spot (by omega) (by omega);exact ⟨b,o,hA,hb,fun j hj=>hc j _ (by rw [List.getElem?_map,kN hj];rfl)⟩
theorem bR {x n:Int} (h:0≤x∧x < n):∃j:Nat,x=j∧(j:Int) < n:=⟨x.toNat,by omega,by omega⟩
set_option maxRecDepth 20000 in
theorem sR (w:World) (z:Nat) (A:Option Addr) (C:Nat) (s:MsT) (i:aX) (N:Int) (h:oM w z A C s) (hr:cw (toI i) N s.mem.length=true):Calls Tryz.prog 85 #[.pointer (some ⟨z,0,none⟩),.agg (ay i).toArray] w fun e w'=>e=.returned (.int .i64 (dg (toI i) s.mem))∧Below w.heap.size w w':=by
 obtain ⟨b,o,hA,hbl,hce⟩:=qk (C:=C) h.mem h.ok.len.1;obtain ⟨n,hn⟩:∃n,s.mem.length=n:=⟨_,rfl⟩;obtain ⟨g,hg⟩:∃g,w.heap.size=g:=⟨_,rfl⟩;obtain ⟨w1,hw1⟩:∃w1,w.alloc (.cells (ay i).toArray 51)=w1:=⟨_,rfl⟩;have hk:Bk w1 g 51 (ay i):=hw1▸Bk.at_ w _ _ hg rfl;have hb:Below w.heap.size w w1:=hw1▸ai w _;obtain ⟨q,hq⟩:∃q,dg (toI i) s.mem=q:=⟨_,rfl⟩;rw [hq];have HM:=aa (fun x=>lf (m:=s.mem) (fun x hx=>h.ok.mem x hx) x);have HL:=aa h.ok.len;have HZC:Hid (∀wk,Below w1.heap.size w1 wk→wk.cell? ⟨z,1,none⟩=some (.slice (some ⟨b,o,none⟩) n C)):=fun wk hbk=>by have:=(((h.bk.later hb)).later hbk).cell 1;rw [hn,hA] at this;simpa [aF] using this
 have HCE:Hid (∀wk,Below w1.heap.size w1 wk→∀j:Nat,j < n→wk.cell? ⟨b,o+j,none⟩=some (.int .i32 (br s.mem (j:Int)))):=fun wk hbk j hj=>by have hbb:=ab hb hbk;rw [hbb.cell hbl];exact hce j (by rw [hn];exact hj)
 rw [hn] at hr HL;have HW:=aa hw1;have HB:=aa hb;have HG:=aa hg;have HK:=aa hk;have HQ:=aa hq;have HR:=aa hr;have HN:=aa hn;clear hk hw1 hg hb hq hr hn hce hA h hbl;have c0:w1.cell? ⟨g,0,none⟩=some (.int .i64 i.op):=HK.cell 0;go_enter Tryz.func85,Tryz.ntmps85;go_upto_region 1 with fail
 rw [HW.out,HG.out];by_cases h5:i.op=15
 ·obtain ⟨j,hj,hjn⟩:=bR (j3 HR.out (by show (aU i.op)[2]?=_;rw [h5];rfl));have hb1:=eN HR.out (by show (aU i.op)[1]?=_;rw [h5];rfl);change i.c=_ at hj;obtain ⟨v,hv⟩:∃v,br s.mem (j:Int)=v:=⟨_,rfl⟩;obtain ⟨P,hP⟩:∃P,i.b=P:=⟨_,rfl⟩;have HVC:Hid (∀wk,Below w1.heap.size w1 wk→wk.cell? ⟨b,o+j,none⟩=some (.int .i32 v)):=fun wk hbk=>by rw [←hv];exact HCE.out wk hbk j (by omega)
  have HFR:Hid (dg (toI i) s.mem=if (n:Int)≤P+v then -1 else max (P+v) (-1)):=by show _=_;unfold dg;simp only [toI,h5,if_true,hj,hP,hv,HN.out]
  have hvr:=HM.out (j:Int);rw [hv] at hvr;have hpr:0≤P∧P < n:=by rw [←hP];exact hb1
  have HWV:Hid (IntKind.i64.wrap v=v):=IntWalk.i64_in _ (by obtain ⟨a1,a2⟩:=hvr;omega);have HWR:Hid (IntKind.i64.wrap (P+v)=P+v):=IntWalk.i64_in _ (by have:=HL.out;obtain ⟨a1,a2⟩:=hvr;omega);have hjn2:(j:Int) < n:=by omega
  clear hb1 hpr hvr hv;go_wp2_with fail
  refine wp_region_held_drew (S:=fun wk=>wk.cell? ⟨g,2,none⟩=some (.int .i64 P)∧wk.cell? ⟨g,3,none⟩=some (.int .i64 (j:Int))∧wk.cell? ⟨z,1,none⟩=some (.slice (some ⟨b,o,none⟩) n C)∧wk.cell? ⟨b,o+j,none⟩=some (.int .i32 v)) (by kernel_rfl) ⟨by have:=(HK.later (ac w1 _ 1)).cell 2;simpa [ay,hP] using this,by have:=(HK.later (ac w1 _ 1)).cell 3;simpa [ay,hj] using this,HZC.out _ (ac w1 _ 1),HVC.out _ (ac w1 _ 1)⟩ (fun hHeld=>?_);have HB2:=aa (ab HB.out (ac w1 w1.heap.size 1));have c1:w1.drew.cell? ⟨z,1,none⟩=some (.slice (some ⟨b,o,none⟩) n C):=HZC.out _ (ac w1 _ 1);refine tk 0 ?_;refine tk 2 ?_;refine tk 6 ?_;refine tk 1 ?_;refine tk 3 ?_;refine tk 7 ?_;refine tk 4 ?_;refine tk 5 ?_;refine tk 8 ?_;refine tk 9 ?_;refine tk 10 ?_;refine tk 11 ?_;refine tk 12 ?_;refine wpAnyH_done rfl ?_ _;rw [HWV.out,HWR.out];obtain ⟨y,hy⟩:∃y,P+v=y:=⟨_,rfl⟩;rw [hy];have HFA:Hid (dg (toI i) s.mem=if (n:Int)≤y then -1 else max y (-1)):=by show _=_;rw [←hy];exact HFR.out
  clear hy;by_cases h1:(n:Int)≤y
  ·go_wp2_with fail
   go_ret;obtain rfl:q= -1:=by rw [←HQ.out,HFA.out,if_pos h1]
   exact ⟨rfl,HB2.out⟩
  ·have HFB:Hid (q=max y (-1)):=by show _=_;rw [←HQ.out,HFA.out,if_neg h1]
   go_wp2_with fail
   go_ret;have e1:=HFB.out;subst e1;exact ⟨rfl,HB2.out⟩
 ·by_cases h6:i.op=16
  ·obtain ⟨j,hj,hjn⟩:=bR (eN HR.out (by show (aU i.op)[1]?=_;rw [h6];rfl));have hb1:=cW HR.out (by show (aU i.op)[0]?=_;rw [h6];rfl);change i.b=_ at hj;obtain ⟨v,hv⟩:∃v,br s.mem (j:Int)=v:=⟨_,rfl⟩;obtain ⟨P,hP⟩:∃P,i.a=P:=⟨_,rfl⟩;have HVC:Hid (∀wk,Below w1.heap.size w1 wk→wk.cell? ⟨b,o+j,none⟩=some (.int .i32 v)):=fun wk hbk=>by rw [←hv];exact HCE.out wk hbk j (by omega)
   have HFR:Hid (dg (toI i) s.mem=if (n:Int)≤P+v then -1 else max (P+v) (-1)):=by show _=_;unfold dg;simp only [toI,h6,if_true,hj,hP,hv,HN.out];rfl
   have hvr:=HM.out (j:Int);rw [hv] at hvr;have hpr:0≤P∧P < n:=by rw [←hP];exact hb1
   have HWV:Hid (IntKind.i64.wrap v=v):=IntWalk.i64_in _ (by obtain ⟨a1,a2⟩:=hvr;omega);have HWR:Hid (IntKind.i64.wrap (P+v)=P+v):=IntWalk.i64_in _ (by have:=HL.out;obtain ⟨a1,a2⟩:=hvr;omega);have hjn2:(j:Int) < n:=by omega
   clear hb1 hpr hvr hv;go_wp2_with fail
   refine wp_region_held_drew (S:=fun wk=>wk.cell? ⟨g,1,none⟩=some (.int .i64 P)∧wk.cell? ⟨g,2,none⟩=some (.int .i64 (j:Int))∧wk.cell? ⟨z,1,none⟩=some (.slice (some ⟨b,o,none⟩) n C)∧wk.cell? ⟨b,o+j,none⟩=some (.int .i32 v)) (by kernel_rfl) ⟨by have:=(HK.later (ac w1 _ 1)).cell 1;simpa [ay,hP] using this,by have:=(HK.later (ac w1 _ 1)).cell 2;simpa [ay,hj] using this,HZC.out _ (ac w1 _ 1),HVC.out _ (ac w1 _ 1)⟩ (fun hHeld=>?_);have HB2:=aa (ab HB.out (ac w1 w1.heap.size 1));have c1:w1.drew.cell? ⟨z,1,none⟩=some (.slice (some ⟨b,o,none⟩) n C):=HZC.out _ (ac w1 _ 1);refine tk 0 ?_;refine tk 2 ?_;refine tk 6 ?_;refine tk 1 ?_;refine tk 3 ?_;refine tk 7 ?_;refine tk 4 ?_;refine tk 5 ?_;refine tk 8 ?_;refine tk 9 ?_;refine tk 10 ?_;refine tk 11 ?_;refine tk 12 ?_;refine wpAnyH_done rfl ?_ _;rw [HWV.out,HWR.out];obtain ⟨y,hy⟩:∃y,P+v=y:=⟨_,rfl⟩;rw [hy];have HFA:Hid (dg (toI i) s.mem=if (n:Int)≤y then -1 else max y (-1)):=by show _=_;rw [←hy];exact HFR.out
   clear hy;by_cases h1:(n:Int)≤y
   ·go_wp2_with fail
    go_ret;obtain rfl:q= -1:=by rw [←HQ.out,HFA.out,if_pos h1]
    exact ⟨rfl,HB2.out⟩
   ·have HFB:Hid (q=max y (-1)):=by show _=_;rw [←HQ.out,HFA.out,if_neg h1]
    go_wp2_with fail
    go_ret;have e1:=HFB.out;subst e1;exact ⟨rfl,HB2.out⟩
  ·have HFA:Hid (dg (toI i) s.mem=if (n:Int)≤-1 then -1 else max (-1) (-1)):=by
    show _=_;unfold dg;simp only [toI,h5,h6,if_false,HN.out]
   have c1:w1.cell? ⟨z,1,none⟩=some (.slice (some ⟨b,o,none⟩) n C):=HZC.out _ (Below.refl _ _);have h1:¬((n:Int)≤-1):=by omega
   have HFB:Hid (q= -1):=by show _=_;rw [←HQ.out,HFA.out,if_neg h1];rfl
   go_wp2_with fail
   go_ret;have e1:=HFB.out;subst e1;exact ⟨rfl,HB.out⟩
end Go.Proofs.YtllbdpdnpaocnaaGreatDoor
