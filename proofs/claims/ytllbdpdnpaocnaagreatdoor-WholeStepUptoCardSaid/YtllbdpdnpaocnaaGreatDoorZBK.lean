/- Part of the proof of WholeStep. -/
import Derived.Test.YtllbdpdnpaocnaaGreatDoorZBJ
namespace Go.Proofs.YtllbdpdnpaocnaaGreatDoor
set_option linter.unusedSimpArgs false
set_option linter.unusedVariables false
set_option linter.constructorNameAsVariable false
open Go.RowKit
theorem vn:aO ap:=⟨rfl,fun b hb=>by have:=List.eq_of_mem_replicate hb;omega⟩
set_option maxRecDepth 20000 in
set_option maxHeartbeats 2000000 in
theorem vp (w:World) (A:Option Addr) (n c:Nat) (ls:List (List Int)) (ho:cY ls) (hs:Sl w w.heap.size 8 A n (aJ ls)):Calls Tryz.prog 79 #[.slice A n c] w fun e w'=>e=.returned (.agg (dl (lM ls)).toArray)∧Below w.heap.size w w':=by
 have hlen:=hs.dgs ho;have hnl:=hs.le;obtain ⟨z,hz⟩:∃z,w.heap.size=z:=⟨_,rfl⟩;obtain ⟨w1,hw1⟩:∃w1,w.alloc (.cells #[.int .u8 0,.int .u8 0,.int .u8 0,.int .u8 0,.int .u8 0,.int .u8 0,.int .u8 0,.int .u8 0] 45)=w1:=⟨_,rfl⟩;have hb1:Below w.heap.size w w1:=hw1▸ai w _;have kr:Bk w1 z 45 ([] ++ (dl ap ++ [])):=hw1▸Bk.at_ w _ #[.int .u8 0,.int .u8 0,.int .u8 0,.int .u8 0,.int .u8 0,.int .u8 0,.int .u8 0,.int .u8 0] hz rfl;have HW:=aa hw1;have HB1:=aa hb1;have HZ:=aa hz;have HR1:=aa kr;have HS1:=aa (hs.later hb1);have HOO:=aa ho;have HLN:=aa hlen;have HNL:=aa hnl;clear hw1 hb1 kr hz hs ho hlen;go_enter Tryz.func79,Tryz.ntmps79;go_upto_region 1 with fail
 rw [HW.out,HZ.out];go_wp2_with fail
 refine (iR w1 5).mono ?_;rintro e w2 ⟨rfl,hb2⟩;obtain ⟨s0,hs0⟩:∃s0,eV 5=s0:=⟨_,rfl⟩;rw [hs0];have HS0:=aa hs0;clear hs0;obtain ⟨w3,hw3⟩:∃w3,w2.alloc (.cells #[.int .u64 s0.a,.int .u64 s0.b,.int .u64 s0.c,.int .u64 s0.d] 222)=w3:=⟨_,rfl⟩;obtain ⟨g,hg⟩:∃g,w2.heap.size=g:=⟨_,rfl⟩;have hs3:dR w3 g 222 s0:=hw3▸Bk.at_ _ _ #[.int .u64 s0.a,.int .u64 s0.b,.int .u64 s0.c,.int .u64 s0.d] hg rfl;have hb3:Below w1.heap.size w1 w3:=hw3▸hb2.trans ((ai _ _).mono hb2.size);have hg1:w1.heap.size≤g:=by rw [←hg];exact hb2.size
 have HW3:=aa hw3;have HS3:=aa hs3;have HB3:=aa hb3;have HG:=aa hg;have HG1:=aa hg1;clear hb2 hw3 hs3 hb3 hg hg1;go_upto_region 2 with fail
 rw [HW3.out,HG.out];go_wp2_with fail
 go_loopw [5,9] (fun _ kv wr=>∃k:Nat,k≤n∧kv=.int .i64 k∧Hid (dR wr g 222 (ig (ls.take k)))∧Hid (Below w1.heap.size w1 wr)) (fun _ kv _=>n - (intOf kv).toNat)
 case atStart=>exact ⟨0,Nat.zero_le _,rfl,by show dR _ _ _ _;rw [show ig (ls.take 0)=s0 by rw [←HS0.out];rfl];exact HS3.out,HB3⟩
 case round=>
  obtain ⟨k,hk,rfl,HS,HB⟩:=hrel;have hnn:=HNL.out;by_cases hlt:k < n
  ·have hki:(k:Int) < n:=by omega
   have hk0:(0:Int)≤k:=by omega
   obtain ⟨T,hT⟩:∃T,ls[k]?=some T:=⟨ls[k]'(by rw [HLN.out];omega),List.getElem?_eq_getElem _⟩;obtain ⟨b,o,rfl,_,_⟩:=(HS1.later HB.out).spot (by omega) (by omega);have hr:wr.rangeAt b (o+k*8) (dl T):=zt (HS1.later HB.out) HOO.out hT;have HTO:Hid (aO T):=HOO.out T (List.mem_of_getElem? hT);have HR:=aa hr;have HSN:Hid (ig (ls.take (k+1))=fh (ig (ls.take k)) (eI T)):=by show _=_;rw [cF hT,qV]
   obtain ⟨s,hse⟩:∃s,ig (ls.take k)=s:=⟨_,rfl⟩;rw [hse] at HS HSN;clear hr hT hse;go_wp2_with (first | (with_reducible refine wpList_load_mid rfl 45 _ rfl b (o+k*8) rfl (dl T) _ HR.out Tryz.underlying45 rfl (aq _ HTO.out) ?_) | (with_reducible refine ah 45 _ _ rfl ?_))
   refine ak.go ?_;obtain ⟨g5,hg5⟩:∃g,wr.heap.size=g:=⟨_,rfl⟩;have hbn:Below wr.heap.size wr (wr.alloc (.cells #[.int .u8 0,.int .u8 0,.int .u8 0,.int .u8 0,.int .u8 0,.int .u8 0,.int .u8 0,.int .u8 0] 45)):=ai wr _;have kt:Bk (wr.alloc (.cells #[.int .u8 0,.int .u8 0,.int .u8 0,.int .u8 0,.int .u8 0,.int .u8 0,.int .u8 0,.int .u8 0] 45)) g5 45 ([] ++ (dl ap ++ [])):=by rw [←hg5];exact Bk.new' wr _ #[.int .u8 0,.int .u8 0,.int .u8 0,.int .u8 0,.int .u8 0,.int .u8 0,.int .u8 0,.int .u8 0] rfl
   rw [hg5];refine ae rfl 45 _ _ rfl g5 0 (.agg (dl T).toArray) (dl T) rfl rfl rfl 45 [] (dl ap) [] kt rfl (by rw [bT,bT,HTO.len];rfl) (aq _ HTO.out) (bN _) ?_;intro w5 hp;have hbn:Below wr.heap.size wr w5:=hbn.grown hp.only hbn.size (fun q hq=>by injection hq with hq;omega);have HT5:Hid (Bk w5 g5 45 (dl T)):=by show Bk _ _ _ _;have:=hp.bk;simpa using this
   clear hp kt;clear hg5;have HB5:=aa (HB.trans (hbn.mono HB.size));have HS5:=aa (HS.later hbn);clear hbn HB HS HR;go_wp2_with (with_reducible refine aj rfl 45 _ rfl g5 rfl (dl T) 45 HT5.out _ Tryz.underlying45 rfl (aq _ HTO.out) ?_)
   refine (iP T HTO.out w5).mono ?_;rintro e w6 ⟨rfl,hb6⟩;have HB6:=aa (HB5.trans (hb6.mono HB5.size));have HS6:=aa (HS5.later hb6);clear hb6 HB5 HS5 HT5;go_wp2_with fail
   refine (fi _ _ _ HS6.out _).mono ?_;rintro e w7 ⟨rfl,hs7,hg7⟩;have HB7:=aa (ag HB6.out hg7 HB6.size HG1.out);have HS7:Hid (dR w7 g 222 (ig (ls.take (k+1)))):=by show dR _ _ _ _;rw [HSN.out];exact hs7
   clear hs7 hg7 HB6 HS6;go_wp2_with fail
   go_roundw
   case rel=>exact ⟨k+1,hlt,by go_num,HS7,HB7⟩
   case measure=>simp [intOf];omega
  ·have hki:¬((k:Int) < n):=by omega
   obtain rfl:k=n:=by omega
   have hcw:IntKind.u64.wrap (k:Int)=k:=by rw [IntKind.wrap_u64];omega
   rw [List.take_of_length_le (by rw [HLN.out];exact Nat.le_refl _)] at HS;have HMI:Hid (jq (fh (ig ls) (k:Int))=lM ls):=by show _=_;rw [lM,HLN.out]
   have HDO:=aa (pF ls);obtain ⟨T,hT⟩:∃T,lM ls=T:=⟨_,rfl⟩;obtain ⟨s,hse⟩:∃s,ig ls=s:=⟨_,rfl⟩;have HTE:=aa hT;rw [hT,hse] at HMI;rw [hse] at HS;rw [hT] at HDO;clear hT hse;go_wp2_with fail
   refine (fi _ _ _ HS.out _).mono ?_;rintro e w7 ⟨rfl,hs7,hg7⟩;have HB7:=aa (ag HB.out hg7 HB.size HG1.out);have HS7:=aa hs7;clear hs7 hg7 HB HS hcw;go_wp2_with fail
   refine (iQ _ _ _ HS7.out).mono ?_;rintro e w8 ⟨rfl,hb8⟩;rw [HMI.out,show (dgA T)=(dl T).toArray from rfl];have HB8:=aa (HB7.trans (hb8.mono HB7.size));have HR8:=aa (HR1.later HB8.out);have HBT:=aa (ab HB1.out HB8.out);clear hb8 HB7 HS7;go_wp2_with (with_reducible refine ah 45 _ _ rfl ?_)
   refine ak.go ?_;refine ae rfl 45 _ _ rfl z 0 (.agg (dl T).toArray) (dl T) rfl rfl rfl 45 [] (dl ap) [] HR8.out rfl (by rw [bT,bT,HDO.len,vn.len]) (aq _ HDO.out) (bN _) ?_;intro wz hp;have HTz:Hid (Bk wz z 45 (dl T)):=by show Bk _ _ _ _;have:=hp.bk;simpa using this
   have HBz:=aa (ag HBT.out hp.only HBT.size (Nat.le_of_eq HZ.out));clear hp;go_wp2_with fail
   refine bodyPost_ret (bH rfl _ _ z 45 (dl T) _ rfl HTz.out Tryz.underlying45 rfl (aq _ HDO.out)) rfl ?_;exact ⟨by rw [HTE.out],HBz.out⟩
theorem iU (n:Int) (w:World):Calls Tryz.prog 80 #[.int .u64 n] w fun e w'=>e=.returned (.agg (dl (cT n)).toArray)∧Below w.heap.size w w':=oY n w
open Go.Maps
def wlD (x:Int):List Int:=cT (IntKind.u32.wrap x)
theorem mw (x:Int):aO (wlD x):=io _
def uD (i:InT):List Int:=kC (gw i.op) ++ kC (gw i.a) ++ kC (gw i.b) ++ kC (gw i.c)
def inD (i:InT):List Int:=ofI (uD i)
theorem oP (i:InT):aO (inD i):=qL _
theorem dY {d:List Int} (h:aO d):(dl ap).length=(dl d).length:=by rw [bT,bT,h.len];rfl
set_option maxRecDepth 20000 in
theorem hY (w:World) (x:Int):Calls Tryz.prog 97 #[.int .i32 x] w fun e w'=>e=.returned (.agg (dl (wlD x)).toArray)∧Below w.heap.size w w':=by
 obtain ⟨z,hz⟩:∃z,w.heap.size=z:=⟨_,rfl⟩;obtain ⟨w1,hw1⟩:∃w1,w.alloc (.cells #[.int .u8 0,.int .u8 0,.int .u8 0,.int .u8 0,.int .u8 0,.int .u8 0,.int .u8 0,.int .u8 0] 45)=w1:=⟨_,rfl⟩;have hr:Bk w1 z 45 (dl ap):=hw1▸Bk.at_ w _ _ hz rfl;have hb:Below w.heap.size w w1:=hw1▸ai w _;have hw:IntKind.u64.wrap (IntKind.u32.wrap x)=IntKind.u32.wrap x:=by rw [IntKind.wrap_u32,IntKind.wrap_u64];omega
 obtain ⟨d,hd⟩:∃d,wlD x=d:=⟨_,rfl⟩;have hdo:aO d:=hd▸mw x;have hf:Calls Tryz.prog 80 #[.int .u64 (IntKind.u32.wrap x)] w1 fun e w'=>e=.returned (.agg (dl d).toArray)∧Below w1.heap.size w1 w':=hd▸iU _ w1;rw [hd];have HW:=aa hw1;have HB:=aa hb;have HZ:=aa hz;have HR:=aa hr;have HF:=aa hf;have HDO:=aa hdo;clear hr hw1 hz hb hf hdo hd;go_enter Tryz.func97,Tryz.ntmps97;go_upto_region 1 with fail
 rw [HW.out,HZ.out];go_wp2_with fail
 refine HF.mono ?_;rintro e w2 ⟨rfl,hbn⟩;have HB2:=aa (ab HB.out hbn);have HR2:=aa (HR.later hbn);clear hbn;go_wp2_with (with_reducible refine ah 45 _ _ rfl ?_)
 refine ak.go ?_;refine ae rfl 45 _ _ rfl z 0 (.agg (dl d).toArray) (dl d) rfl rfl rfl 45 [] (dl ap) [] (by simpa using HR2.out) rfl (dY HDO.out) (aq _ HDO.out) (bN _) ?_;intro w3 hp;have HR3:Hid (Bk w3 z 45 (dl d)):=by show Bk _ _ _ _;have:=hp.bk;simpa using this
 have HB3:=aa (ag HB2.out hp.only HB2.size (by have:=HZ.out;omega));clear hp;go_wp2_with fail
 refine bodyPost_ret (bH rfl _ _ z 45 (dl d) _ rfl HR3.out Tryz.underlying45 rfl (aq _ HDO.out)) rfl ?_;exact ⟨rfl,HB3.out⟩
theorem Tryz.infoDgY:(Tryz.prog.info? 45).map (fun i=>(i.zero,i.size,i.bytes))=some (some (.agg (dgA ap)),8,8):=by kernel_rfl
theorem xm {d:List Int} (h:aO d) (w:World):(Instr.buildSlice 52 1 #[(0,.agg (dl d).toArray)]).run Tryz.prog w=.ok (.slice (some ⟨w.heap.size,0,none⟩) 1 1) (w.alloc (.cells (dl d).toArray 45)):=by obtain ⟨x0,x1,x2,x3,x4,x5,x6,x7,rfl⟩:=dQ d h.len;kernel_rfl
theorem nF {α:Type} (f:α→List Int) {L:List α} {k:Nat} {t:α} (hk:L[k]?=some t):aJ ((L.take (k+1)).map f)=aJ ((L.take k).map f) ++ dl (f t):=by rw [cF hk,List.map_append,aJ,List.flatMap_append];simp [aJ,dl]
set_option maxRecDepth 20000 in
set_option maxHeartbeats 1000000 in
theorem mx (w:World) (A:Option Addr) (N C:Nat) (L:List Int) (h:Sl w w.heap.size 1 A N (L.map (.int .i32))) (hN:N≤4096):Calls Tryz.prog 78 #[.slice A N C] w fun e w'=>(∃v,e=.returned v∧w'.ownsRow w.heap.size 45 8 v N (aJ (L.map wlD)))∧Below w.heap.size w w':=by
 have HS:=aa h;have HLN:=aa h.length;obtain ⟨i0,hi,hi0,hi1,hi2⟩:=info_parts Tryz.infoDgY;clear h;go_enter Tryz.func78,Tryz.ntmps78;go_wp2_with (at_make;refine bA ?_)
 refine ak.go ?_;refine wpList_make_own _ rfl _ _ 52 rfl w.heap.size 45 i0 (.agg (dgA ap)) 8 Tryz.underlying52 hi hi0 hi1 .i64 .i64 _ N rfl rfl rfl (by rw [hi2];omega) (by unfold maxLen;omega) (Nat.le_refl _) ?_;intro w2 hown2 hg2;have hbn:=lm hg2;have HL2:=aa hown2;have HB2:=aa hbn;clear hown2 hg2 hbn;go_wp2_with fail
 go_loopw [3,5,11] (fun lv _ kv wr=>∃k:Nat,k≤N∧kv=.int .i64 k∧Hid (wr.ownsRow w.heap.size 45 8 lv k (aJ ((L.take k).map wlD)))∧Hid (Below w.heap.size w wr)) (fun _ _ kv _=>N - (intOf kv).toNat)
 case atStart=>exact ⟨0,Nat.zero_le _,rfl,HL2.out,HB2.out⟩
 case round=>
  obtain ⟨k,hk,rfl,HJ,HB⟩:=hrel;by_cases hlt:k < N
  ·have hki:(k:Int) < N:=by omega
   obtain ⟨ad,x,hA,_,hx,hc⟩:=(HS.below HB.out).at_ hlt;have HFS:=aa (nF wlD hx);clear hx;subst hA;go_wp2_with fail
   refine (hY wr x).mono ?_;rintro e w6 ⟨rfl,hbn⟩;have HB6:=aa (ab HB.out hbn);have HJ6:=aa (az HJ.out hbn);clear hc HB HJ;obtain ⟨d,hd⟩:∃d,wlD x=d:=⟨_,rfl⟩;have HDO:Hid (aO d):=by show aO d;rw [←hd];exact mw x
   rw [hd] at HFS ⊢;clear hbn hd;go_wp2_with (with_reducible refine a8 52 _ _ rfl ?_)
   refine ak.go ?_;refine ar rfl 52 1 _ rfl #[(0,.agg (dl d).toArray)] ?_ 45 (dl d) (fun w=>xm HDO.out w) ?_
   ·simp [Act.eval,Act.put]
   intro q8 w8 hq8 hb8 hbn;have HB8:=aa (ab HB6.out hbn);have HJ8:=aa (az HJ6.out hbn);have HC8:=aa hb8;clear hq8 hb8 hbn HB6 HJ6;go_wp2_with (at_builtin;refine bA ?_)
   refine ak.go ?_;refine bm _ rfl (.tmp 15) (.tmp 18) 52 rfl w.heap.size 45 i0 (.agg (dgA ap)) 8 8 Tryz.underlying52 hi hi0 hi1 hi2 rfl (by decide) _ _ _ rfl HJ8.out _ _ _ _ _ rfl (Sl.of_own (HC8.own (base:=0) (size:=8) (cap:=1) (n:=1) (Nat.zero_le _) (Nat.le_refl _) (by omega) (by rw [bT,HDO.len]) (by rw [List.take_of_length_le (by rw [bT,HDO.len];exact Nat.le_refl _)]))) (bN _) (by unfold maxLen;omega) (by omega) HB8.size ?_;intro v9 w9 hown hgr hat;have HB9:=aa (aB HB8.out HJ8.out hgr (Nat.le_refl _) HB8.size);have HJ9:Hid (w9.ownsRow w.heap.size 45 8 v9 (k+1) (aJ ((L.take (k+1)).map wlD))):=by show World.ownsRow _ _ _ _ _ _ _;rw [HFS.out];exact hown
   clear hown hgr hat HJ8 HB8;go_wp2_with fail
   go_roundw
   case rel=>exact ⟨k+1,hlt,by go_num,HJ9,HB9⟩
   case measure=>simp [intOf];omega
  ·
   have hki:¬((k:Int) < N):=by omega
   obtain rfl:k=N:=by omega
   go_wp2_with fail
   go_ret;refine ⟨⟨_,rfl,?_⟩,HB.out⟩;have hh:=HJ.out;rw [List.take_of_length_le (by rw [HLN.out];exact Nat.le_refl _)] at hh;exact hh
def sj (i:aX) (k:Nat):Int:=if k=0 then i.op else if k=1 then i.a else if k=2 then i.b else i.c
def my (i:aX):Nat→List Int
 | 0=>[]
 | k+1=>my i k ++ kC (gw (sj i k))
theorem uE (i:aX):my i 4=uD (toI i):=rfl
theorem xn (n:Nat):(kC n).length≤10:=(pd 9 n).2
theorem qx (i:aX):∀k,(my i k).length≤10*k
 | 0=>Nat.le_refl _
 | k+1=>by have:=qx i k;have:=xn (gw (sj i k));rw [my,List.length_append];omega
theorem yL {i:aX} (h:eB i) (k:Nat):InR (sj i k):=by
 obtain ⟨h0,h1,h2,h3⟩:=h;unfold sj
 repeat' split
 all_goals assumption
theorem kw {n:Nat} (h:n < 18446744073709551616):fz (kC n):=fun b hb=>uU 9 n (Nat.lt_of_lt_of_le h (by decide)) b hb
theorem yM {i:aX} (h:eB i):fz (uD (toI i)):=by
 obtain ⟨h0,h1,h2,h3⟩:=h;intro b hb;simp only [uD,List.mem_append] at hb;rcases hb with ((hb | hb) | hb) | hb
 ·exact kw (jP h0.1 h0.2) b hb
 ·exact kw (jP h1.1 h1.2) b hb
 ·exact kw (jP h2.1 h2.2) b hb
 ·exact kw (jP h3.1 h3.2) b hb
theorem Bb (i:aX) {k:Nat} (hk:k < 4):([Value.int .i64 i.op,.int .i64 i.a,.int .i64 i.b,.int .i64 i.c].toArray)[k]?=some (.int .i64 (sj i k)):=by
 have:k=0∨k=1∨k=2∨k=3:=by omega
 rcases this with rfl | rfl | rfl | rfl <;> rfl
theorem Bc (i:aX) {k:Nat} (hk:k < 4) (w:World):(Instr.index 234 (.agg [.int .i64 i.op,.int .i64 i.a,.int .i64 i.b,.int .i64 i.c].toArray) (.int .i64 (k:Int))).run Tryz.prog w=.ok (.int .i64 (sj i k)) w:=
 fd 234 3 4 _ .i64 k _ Tryz.underlying234 (by kernel_rfl) hk (Bb i hk) (fun w=>by simp [isAgg,run_underlying Tryz.underlying3]) w
theorem xo (a b c d:Int) (w:World):(Instr.build 234 #[(0,.int .i64 a),(1,.int .i64 b),(2,.int .i64 c),(3,.int .i64 d)]).run Tryz.prog w=.ok (.agg [.int .i64 a,.int .i64 b,.int .i64 c,.int .i64 d].toArray) w:=by kernel_rfl
set_option maxRecDepth 20000 in
set_option maxHeartbeats 1000000 in
theorem oQ (w:World) (i:aX) (hi:eB i):Calls Tryz.prog 91 #[.slice none 0 0,.agg (ay i).toArray] w (uW w.heap.size (uD (toI i)) w):=by
 obtain ⟨z,hz⟩:∃z,w.heap.size=z:=⟨_,rfl⟩;obtain ⟨w1,hw1⟩:∃w1,w.alloc (.cells (ay i).toArray 51)=w1:=⟨_,rfl⟩;have hk:Bk w1 z 51 (ay i):=hw1▸Bk.at_ w _ _ hz rfl;have hb:Below w.heap.size w w1:=hw1▸ai w _;have c0:w1.cell? ⟨z,0,none⟩=some (.int .i64 i.op):=hk.cell 0;have c1:w1.cell? ⟨z,1,none⟩=some (.int .i64 i.a):=hk.cell 1;have c2:w1.cell? ⟨z,2,none⟩=some (.int .i64 i.b):=hk.cell 2;have c3:w1.cell? ⟨z,3,none⟩=some (.int .i64 i.c):=hk.cell 3;have HW:=aa hw1;have HB:=aa hb;have HZ:=aa hz;have HI:=aa hi;have HBD:=xo i.op i.a i.b i.c;clear hk hw1 hz hb hi;go_enter Tryz.func91,Tryz.ntmps91;go_upto_region 1 with fail
 rw [HW.out,HZ.out];go_wp2_with fail
 clear HBD;go_loopw [0,6,16] (fun v _ j wr=>∃k:Nat,k≤4∧j=.int .i64 k∧Hid (wr.ownsRow w.heap.size 5 1 v (my i k).length ((my i k).map (.int .u8)))∧Hid (Below w.heap.size w wr)) (fun _ _ j _=>4 - (intOf j).toNat)
 case atStart=>exact ⟨0,Nat.zero_le _,rfl,World.ownsRow_nil _ _ _ _,HB.out⟩
 case round=>
  obtain ⟨k,hk,rfl,hO,hB⟩:=hrel;obtain ⟨A,C,rfl⟩:=aI hO.out;obtain ⟨n,hn⟩:∃n,(my i k).length=n:=⟨_,rfl⟩;rw [hn] at hO ⊢;have hn4:n≤40:=by have:=qx i k;omega
  have HNL:=aa hn;clear hn;by_cases hlt:k < 4
  ·have hk4:(k:Int) < 4:=by omega
   have hix:=Bc i hlt;obtain ⟨y,hy⟩:∃y,sj i k=y:=⟨_,rfl⟩;have hyr:=yL HI.out k;rw [hy] at hix hyr;have HY:=aa hy;have HP:=aa (qJ wr A n C (my i k) (Sl.of_own hO.out) y hyr.1 hyr.2 (by omega));clear hy hyr;go_wp2_with fail
   refine HP.mono ?_;rintro e w6 ⟨v,rfl,hown,hbn⟩;have HO6:Hid (w6.ownsRow w.heap.size 5 1 v (my i (k+1)).length ((my i (k+1)).map (.int .u8))):=by show World.ownsRow _ _ _ _ _ _ _;rw [my,HY.out];exact dB hown hB.out.size
   have HB6:=aa (ab hB.out hbn);clear hown hbn HP hix;go_wp2_with fail
   go_roundw
   case rel=>exact ⟨k+1,by omega,by go_num,HO6.out,HB6.out⟩
   case measure=>simp [intOf];omega
  ·obtain rfl:k=4:=by omega
   go_wp2_with fail
   go_ret;have h4:=hO.out;rw [uE] at h4 HNL;rw [←HNL.out] at h4 ⊢;exact ⟨_,rfl,h4,hB.out⟩
set_option maxRecDepth 20000 in
theorem jp (w:World) (i:aX) (hi:eB i):Calls Tryz.prog 45 #[.agg (ay i).toArray] w fun e w'=>e=.returned (.agg (dl (inD (toI i))).toArray)∧Below w.heap.size w w':=by
 obtain ⟨z,hz⟩:∃z,w.heap.size=z:=⟨_,rfl⟩;obtain ⟨w1,hw1⟩:∃w1,(w.alloc (.cells (ay i).toArray 51)).alloc (.cells #[.int .u8 0,.int .u8 0,.int .u8 0,.int .u8 0,.int .u8 0,.int .u8 0,.int .u8 0,.int .u8 0] 45)=w1:=⟨_,rfl⟩;have hk:Bk w1 z 51 (ay i):=hw1▸(Bk.at_ w _ _ hz rfl).alloc _;have hr:Bk w1 (z+1) 45 (dl ap):=hw1▸Bk.at_ _ _ _ (by simp [hz]) rfl;have hb:Below w.heap.size w w1:=hw1▸(ai w _).alloc (by simp) _;have HW:=aa hw1;have HB:=aa hb;have HZ:=aa hz;have HI:=aa hi;have HK:=aa hk;have HR:=aa hr;have HPI:=aa (oQ w1 i hi);have HBO:=aa (yM hi);obtain ⟨bs,hbs⟩:∃bs,uD (toI i)=bs:=⟨_,rfl⟩;obtain ⟨d,hd⟩:∃d,inD (toI i)=d:=⟨_,rfl⟩;have HDE:Hid (ofI bs=d):=by show _=_;rw [←hbs];exact hd
 rw [hd];rw [hbs] at HPI HBO;have HD:Hid (aO d):=by show aO d;rw [←hd];exact oP _
 clear hk hw1 hz hb hi hr hbs hd;go_enter Tryz.func45,Tryz.ntmps45;go_upto_region 1 with fail
 rw [HW.out,HZ.out];go_wp2_with (with_reducible refine aj rfl 51 _ rfl z rfl (ay i) 51 HK.out _ Tryz.underlying51 rfl (aW i) ?_)
 refine HPI.mono ?_;rintro e w2 ⟨v,rfl,hown,hbn⟩;obtain ⟨A,C,rfl⟩:=aI hown;have HSL:=aa (Sl.of_own hown);have HCP:=aa (ef hown);have HAL:Hid (∀ad,A=some ad→ad.block < w2.heap.size):=by
  rcases dA hown with ⟨e1,_⟩ | ⟨g,cap,ys,e1,_,hb,_⟩
  ·injection e1 with e1;subst e1;intro ad h;cases h
  ·injection e1 with e1;subst e1;intro ad h;injection h with h;subst h;exact hb.lt
 have HB2:=aa (ab HB.out hbn);have HR2:=aa (HR.later hbn);clear hown hbn HPI;have HOF:=aa (xN w2 A _ C bs HSL.out HBO.out HCP.out HAL.out);rw [HDE.out] at HOF;go_wp2_with fail
 refine HOF.mono ?_;rintro e w3 ⟨rfl,hbn⟩;have HB3:=aa (ab HB2.out hbn);have HR3:=aa (HR2.later hbn);clear hbn HOF;go_wp2_with (with_reducible refine ah 45 _ _ rfl ?_)
 refine ak.go ?_;refine ae rfl 45 _ _ rfl (z+1) 0 (.agg (dl d).toArray) (dl d) rfl rfl rfl 45 [] (dl ap) [] (by simpa using HR3.out) rfl (dY HD.out) (aq _ HD.out) (bN _) ?_;intro w4 hp;have HR4:Hid (Bk w4 (z+1) 45 (dl d)):=by show Bk _ _ _ _;have:=hp.bk;simpa using this
 have HB4:=aa (ag HB3.out hp.only HB3.size (by have:=HZ.out;omega));clear hp;go_wp2_with fail
 refine bodyPost_ret (bH rfl _ _ (z+1) 45 (dl d) _ rfl HR4.out Tryz.underlying45 rfl (aq _ HD.out)) rfl ?_;exact ⟨rfl,HB4.out⟩
def zm (base:Nat) (ls:List (List Int)) (e:Ending) (w' : World):Prop:=∃(T:Tr) (hi:Nat),e=.returned (.tuple #[.pointer (some ⟨T.g,0,none⟩),.int .i64 0])∧dE w' base hi T ls
theorem nG {w:World} {lo lo' hi:Nat} {T:Tr} {ls:List (List Int)} (h:dE w lo hi T ls) (hl:lo'≤lo):dE w lo' hi T ls:=by obtain ⟨ns,t,e⟩:=h;exact ⟨ns,⟨t.row,t.lok,t.lv,t.lc,t.lh,t.nv,t.hm,t.apl,t.apn,⟨Nat.le_trans hl t.blo.1,Nat.le_trans hl t.blo.2.1,fun l h=>Nat.le_trans hl (t.blo.2.2 l h)⟩,t.bhi,t.hih⟩,e⟩
def jH (L:List aX):List (List Int):=L.map fun i=>inD (toI i)
theorem yN (L:List aX):cY (jH L):=fun d hd=>by
 obtain ⟨i,_,rfl⟩:=List.mem_map.1 hd;exact oP _
def eG (m:List Int):List (List Int):=m.map wlD
theorem yO (m:List Int):cY (eG m):=fun d hd=>by
 obtain ⟨i,_,rfl⟩:=List.mem_map.1 hd;exact mw _
set_option maxRecDepth 20000 in
set_option maxHeartbeats 1000000 in
theorem kx (w:World) (c:Sln) (L:List aX) (h:bZ w w.heap.size c L):Calls Tryz.prog 32 #[.slice c.A c.N c.C] w fun e w'=>zm w.heap.size (jH L) e w'∧Below w.heap.size w w':=by
 have HS:=aa h;have HLN:=aa h.len;obtain ⟨i0,hi,hi0,hi1,hi2⟩:=info_parts Tryz.infoDgY;obtain ⟨A,N,C⟩:=c;have g1:(1:Int)≤N:=by have:=h.one;simp only at this;omega
 have g2:(N:Int)≤2048:=by have:=h.few;simp only at this;omega
 clear h;simp only at HLN ⊢;go_enter Tryz.func32,Tryz.ntmps32;go_wp2_with (at_make;refine bA ?_)
 refine ak.go ?_;refine wpList_make_own _ rfl _ _ 52 rfl w.heap.size 45 i0 (.agg (dgA ap)) 8 Tryz.underlying52 hi hi0 hi1 .i64 .i64 _ N rfl rfl rfl (by rw [hi2];omega) (by unfold maxLen;omega) (Nat.le_refl _) ?_;intro w2 hown2 hg2;have hbn:=lm hg2;have HL2:=aa hown2;have HB2:=aa hbn;clear hown2 hg2 hbn;go_wp2_with fail
 go_loopw [4,6,20] (fun lv _ kv wr=>∃k:Nat,k≤N∧kv=.int .i64 k∧Hid (wr.ownsRow w.heap.size 45 8 lv k (aJ ((L.take k).map fun i=>inD (toI i))))∧Hid (Below w.heap.size w wr)) (fun _ _ kv _=>N - (intOf kv).toNat)
 case atStart=>exact ⟨0,Nat.zero_le _,rfl,HL2.out,HB2.out⟩
 case round=>
  obtain ⟨k,hk,rfl,HJ,HB⟩:=hrel;by_cases hlt:k < N
  ·have hki:(k:Int) < N:=by omega
   obtain ⟨b,o,x,hA,_,hx,hr,hok⟩:=(HS.below HB.out).spot hlt;have HFS:=aa (nF (fun i=>inD (toI i)) hx);have HOK:=aa hok;have HR:=aa hr;clear hx hok hr;simp only at hA;subst hA;go_wp2_with (first | (with_reducible refine wpList_load_mid rfl 51 _ rfl b (o+k*4) rfl (ay x) _ HR.out Tryz.underlying51 rfl (aW x) ?_) | (with_reducible refine ah 51 _ _ rfl ?_))
   refine ak.go ?_;obtain ⟨g5,hg5⟩:∃q,wr.heap.size=q:=⟨_,rfl⟩;rw [hg5];refine an 51 _ _ rfl g5 hg5 (ay x) rfl rfl rfl rfl (aW x) (dN x) ?_;intro w5 hk5 hbn;have HK5:=aa hk5;have HB5:=aa (ab HB.out hbn);have HJ5:=aa (az HJ.out hbn);clear hk5 hbn hg5 HJ HB;go_wp2_with (with_reducible refine aj rfl 51 _ rfl g5 rfl (ay x) 51 HK5.out _ Tryz.underlying51 rfl (aW x) ?_)
   refine (jp w5 x HOK.out).mono ?_;rintro e w6 ⟨rfl,hbn⟩;have HB6:=aa (ab HB5.out hbn);have HJ6:=aa (az HJ5.out hbn);clear HB5 HJ5;obtain ⟨d,hd⟩:∃d,inD (toI x)=d:=⟨_,rfl⟩;have HDO:Hid (aO d):=by show aO d;rw [←hd];exact oP _
   rw [hd] at HFS ⊢;clear hbn hd;go_wp2_with (with_reducible refine a8 52 _ _ rfl ?_)
   refine ak.go ?_;refine ar rfl 52 1 _ rfl #[(0,.agg (dl d).toArray)] ?_ 45 (dl d) (fun w=>xm HDO.out w) ?_
   ·simp [Act.eval,Act.put]
   intro q8 w8 hq8 hb8 hbn;have HB8:=aa (ab HB6.out hbn);have HJ8:=aa (az HJ6.out hbn);have HC8:=aa hb8;clear hq8 hb8 hbn HB6 HJ6;go_wp2_with (at_builtin;refine bA ?_)
   refine ak.go ?_;refine bm _ rfl (.tmp 24) (.tmp 27) 52 rfl w.heap.size 45 i0 (.agg (dgA ap)) 8 8 Tryz.underlying52 hi hi0 hi1 hi2 rfl (by decide) _ _ _ rfl HJ8.out _ _ _ _ _ rfl (Sl.of_own (HC8.own (base:=0) (size:=8) (cap:=1) (n:=1) (Nat.zero_le _) (Nat.le_refl _) (by omega) (by rw [bT,HDO.len]) (by rw [List.take_of_length_le (by rw [bT,HDO.len];exact Nat.le_refl _)]))) (bN _) (by unfold maxLen;omega) (by omega) HB8.size ?_;intro v9 w9 hown hgr hat;have HB9:=aa (aB HB8.out HJ8.out hgr (Nat.le_refl _) HB8.size);have HJ9:Hid (w9.ownsRow w.heap.size 45 8 v9 (k+1) (aJ ((L.take (k+1)).map (fun i=>inD (toI i))))):=by show World.ownsRow _ _ _ _ _ _ _;rw [HFS.out];exact hown
   clear hown hgr hat HJ8 HB8;go_wp2_with fail
   go_roundw
   case rel=>exact ⟨k+1,hlt,by go_num,HJ9,HB9⟩
   case measure=>simp [intOf];omega
  ·have hki:¬((k:Int) < N):=by omega
   obtain rfl:k=N:=by omega
   have hh:=HJ.out;rw [List.take_of_length_le (by rw [HLN.out];exact Nat.le_refl _)] at hh;obtain ⟨A8,C8,rfl⟩:=aI hh;have HT:=aa (pq wr A8 k C8 (jH L) (yN L) (Sl.of_own hh) (by omega));clear hh;go_wp2_with fail
   refine HT.mono ?_;rintro e w3 ⟨T,hi3,rfl,ht,hbn⟩;have HT3:=aa (nG ht HB.size);have HB3:=aa (ab HB.out hbn);clear ht hbn HT;go_wp2_with fail
   go_ret2;exact ⟨⟨T,hi3,rfl,HT3.out⟩,HB3.out⟩
set_option maxRecDepth 20000 in
theorem iL (w:World) (s:MsT) (A:Option Addr) (C:Nat) (hm:Sl w w.heap.size 1 A s.mem.length (s.mem.map (.int .i32))) (ok:eF s):Calls Tryz.prog 35 #[.agg (aF s.pc (.slice A s.mem.length C) s.halt).toArray] w fun e w'=>zm w.heap.size (eG s.mem) e w'∧Below w.heap.size w w':=by
 obtain ⟨z,hz⟩:∃z,w.heap.size=z:=⟨_,rfl⟩;obtain ⟨w1,hw1⟩:∃w1,w.alloc (.cells (aF s.pc (.slice A s.mem.length C) s.halt).toArray 38)=w1:=⟨_,rfl⟩;have hk:Bk w1 z 38 (aF s.pc (.slice A s.mem.length C) s.halt):=hw1▸Bk.at_ w _ _ hz rfl;have hb:Below w.heap.size w w1:=hw1▸ai w _;have HW:=aa hw1;have HB:=aa hb;have HZ:=aa hz;have HK:=aa hk;have HM:=aa (hm.later hb);have HOK:=aa ok;clear hk hw1 hz hb hm ok;go_enter Tryz.func35,Tryz.ntmps35;go_upto_region 1 with fail
 rw [HW.out,HZ.out];go_wp2_with (with_reducible refine aj rfl 38 _ rfl z rfl (aF s.pc (.slice A s.mem.length C) s.halt) 38 HK.out _ Tryz.underlying38 rfl (aN _ _ _) ?_)
 refine (jE w1 s A C HOK.out).mono ?_;rintro e w2 ⟨rfl,hbn⟩;have HB2:=aa (ab HB.out hbn);have HM2:=aa (HM.later hbn);have c1:w2.cell? ⟨z,1,none⟩=some (.slice A s.mem.length C):=(HK.later hbn).cell 1;clear hbn;go_wp2_with fail
 refine (mx w2 A s.mem.length C s.mem HM2.out (by have:=HOK.len;omega)).mono ?_;rintro e w3 ⟨⟨v,rfl,hown⟩,hbn⟩;obtain ⟨A3,C3,rfl⟩:=aI hown;have HT:=aa (pq w3 A3 _ C3 (eG s.mem) (yO s.mem) (Sl.of_own hown) (by have:=HOK.len;omega));have HB3:=aa (ab HB2.out hbn);clear hown hbn;go_wp2_with fail
 refine HT.mono ?_;rintro e w4 ⟨T,hi3,rfl,ht,hbn⟩;have HT4:=aa (nG ht HB3.size);have HB4:=aa (ab HB3.out hbn);clear ht hbn HT;go_wp2_with fail
 go_ret2;exact ⟨⟨T,hi3,rfl,HT4.out⟩,HB4.out⟩
def hdD (pc halt n:Int) (m:List Int):List Int:=lM [cT (IntKind.u64.wrap pc),cT (IntKind.u64.wrap halt),cT (IntKind.u64.wrap n),m]
theorem sm (pc halt n:Int) (m:List Int):aO (hdD pc halt n m):=pF _
theorem Al {a b c d:List Int} (ha:aO a) (hb:aO b) (hc:aO c) (hd:aO d) (w:World):(Instr.buildSlice 52 4 #[(0,.agg (dl a).toArray),(1,.agg (dl b).toArray),(2,.agg (dl c).toArray),(3,.agg (dl d).toArray)]).run Tryz.prog w=.ok (.slice (some ⟨w.heap.size,0,none⟩) 4 4) (w.alloc (.cells (dl a ++ (dl b ++ (dl c ++ dl d))).toArray 45)):=by obtain ⟨x0,x1,x2,x3,x4,x5,x6,x7,rfl⟩:=dQ a ha.len;obtain ⟨y0,y1,y2,y3,y4,y5,y6,y7,rfl⟩:=dQ b hb.len;obtain ⟨z0,z1,z2,z3,z4,z5,z6,z7,rfl⟩:=dQ c hc.len;obtain ⟨u0,u1,u2,u3,u4,u5,u6,u7,rfl⟩:=dQ d hd.len;kernel_rfl
theorem Am (a b c d:List Int):dl a ++ (dl b ++ (dl c ++ dl d))=aJ [a,b,c,d]:=by simp [aJ,dl]
theorem xp {a b c d:List Int} (ha:aO a) (hb:aO b) (hc:aO c) (hd:aO d):cY [a,b,c,d]:=fun x hx=>by
 simp only [List.mem_cons,List.not_mem_nil,or_false] at hx;rcases hx with rfl | rfl | rfl | rfl <;> assumption
set_option maxRecDepth 20000 in
set_option maxHeartbeats 1000000 in
theorem gH (w:World) (pc halt n:Int) (m:List Int) (hm:aO m):Calls Tryz.prog 36 #[.int .i64 pc,.int .i64 halt,.int .i64 n,.agg (dl m).toArray] w fun e w'=>e=.returned (.agg (dl (hdD pc halt n m)).toArray)∧Below w.heap.size w w':=by
 obtain ⟨z,hz⟩:∃z,w.heap.size=z:=⟨_,rfl⟩;obtain ⟨M,hM⟩:∃M,(dl m).toArray=M:=⟨_,rfl⟩;obtain ⟨w1,hw1⟩:∃w1,(w.alloc (.cells M 45)).alloc (.cells #[.int .u8 0,.int .u8 0,.int .u8 0,.int .u8 0,.int .u8 0,.int .u8 0,.int .u8 0,.int .u8 0] 45)=w1:=⟨_,rfl⟩;have hk:Bk w1 z 45 (dl m):=hw1▸(Bk.at_ w _ _ hz (by rw [←hM])).alloc _;have hr:Bk w1 (z+1) 45 (dl ap):=hw1▸Bk.at_ _ _ _ (by simp [hz]) rfl;have hb:Below w.heap.size w w1:=hw1▸(ai w _).alloc (by simp) _;obtain ⟨a,ha⟩:∃a,cT (IntKind.u64.wrap pc)=a:=⟨_,rfl⟩;obtain ⟨b,hb2⟩:∃a,cT (IntKind.u64.wrap halt)=a:=⟨_,rfl⟩;obtain ⟨c,hc⟩:∃a,cT (IntKind.u64.wrap n)=a:=⟨_,rfl⟩;have HFa:Hid (∀wk,Calls Tryz.prog 80 #[.int .u64 (IntKind.u64.wrap pc)] wk fun e w'=>e=.returned (.agg (dl a).toArray)∧Below wk.heap.size wk w'):=fun wk=>ha▸iU _ wk;have HFb:Hid (∀wk,Calls Tryz.prog 80 #[.int .u64 (IntKind.u64.wrap halt)] wk fun e w'=>e=.returned (.agg (dl b).toArray)∧Below wk.heap.size wk w'):=fun wk=>hb2▸iU _ wk;have HFc:Hid (∀wk,Calls Tryz.prog 80 #[.int .u64 (IntKind.u64.wrap n)] wk fun e w'=>e=.returned (.agg (dl c).toArray)∧Below wk.heap.size wk w'):=fun wk=>hc▸iU _ wk;have HOa:Hid (aO a):=by show aO a;rw [←ha];exact io _
 have HOb:Hid (aO b):=by show aO b;rw [←hb2];exact io _
 have HOc:Hid (aO c):=by show aO c;rw [←hc];exact io _
 obtain ⟨D,hD⟩:∃D,hdD pc halt n m=D:=⟨_,rfl⟩;have HDE:Hid (lM [a,b,c,m]=D):=by show _=_;rw [←hD,hdD,ha,hb2,hc]
 have HDO:Hid (aO D):=by show aO D;rw [←hD];exact sm _ _ _ _
 rw [hD,hM];have HW:=aa hw1;have HB1:=aa hb;have HZ:=aa hz;have HK1:=aa hk;have HR1:=aa hr;have HMO:=aa hm;clear hk hr hw1 hz hb ha hb2 hc hD hm hM;go_enter Tryz.func36,Tryz.ntmps36;go_upto_region 1 with fail
 rw [HW.out,HZ.out];refine wp_region_held_drew (S:=fun wk=>Bk wk z 45 (dl m)) (by kernel_rfl) (HK1.later (ac w1 _ 1)) (fun hHeld=>?_);obtain ⟨w2,hw2⟩:∃wa,w1.drew=wa:=⟨_,rfl⟩;have hb2:Below w1.heap.size w1 w2:=hw2▸ac w1 w1.heap.size 1;rw [hw2] at hHeld ⊢;have HK2:=aa (HK1.later hb2);have HR2:=aa (HR1.later hb2);have HB2:=aa (ab HB1.out hb2);clear hw2 hb2;refine tk 0 ?_;refine tk 3 ?_;refine tk 6 ?_;refine tkR 9 (dl m) (fun w hSw=>(Bk.range (pre:=[]) (post:=[]) (by simpa using hSw) rfl)) Tryz.underlying45 ((aq _ HMO.out)) ?_;refine tk 1 ?_;refine tk 4 ?_;refine tk 7 ?_;refine rd1 2 (fun K hK=>?_);go_simp
 (refine (HFa.out w2).mono ?_;rintro e w3 ⟨rfl,hbn⟩;have HK3:=aa (HK2.later hbn);have HR3:=aa (HR2.later hbn);have HB3:=aa (ab HB2.out hbn);clear hbn)
 refine so hK (HK3.out) (fun hHeld=>?_);clear hK K;refine rd1 5 (fun K hK=>?_);go_simp
 (refine (HFb.out w3).mono ?_;rintro e w4 ⟨rfl,hbn⟩;have HK4:=aa (HK3.later hbn);have HR4:=aa (HR3.later hbn);have HB4:=aa (ab HB3.out hbn);clear hbn)
 refine so hK (HK4.out) (fun hHeld=>?_);clear hK K;refine rd1 8 (fun K hK=>?_);go_simp
 (refine (HFc.out w4).mono ?_;rintro e w5 ⟨rfl,hbn⟩;have HK5:=aa (HK4.later hbn);have HR5:=aa (HR4.later hbn);have HB5:=aa (ab HB4.out hbn);clear hbn)
 refine so hK (HK5.out) (fun hHeld=>?_);clear hK K;refine rdw 10 (fun K hK=>?_);refine cL 52 4 _ rfl #[(0,.agg (dl a).toArray),(1,.agg (dl b).toArray),(2,.agg (dl c).toArray),(3,.agg (dl m).toArray)] (by simp [Act.eval,Act.put]) _ _ (Al HOa.out HOb.out HOc.out HMO.out w5) ?_;obtain ⟨q6,hq6⟩:∃q,w5.heap.size=q:=⟨_,rfl⟩;obtain ⟨w6,hw6⟩:∃wa,w5.alloc (.cells (dl a ++ (dl b ++ (dl c ++ dl m))).toArray 45)=wa:=⟨_,rfl⟩;have hbn:Below w5.heap.size w5 w6:=hw6▸ai w5 _;have HN6:Hid (Bk w6 q6 45 (aJ [a,b,c,m])):=by show Bk _ _ _ _;rw [←hw6,←hq6,←Am];exact Bk.new' _ _ _ rfl
 have HK6:=aa (HK5.later hbn);have HR6:=aa (HR5.later hbn);have HB6:=aa (ab HB5.out hbn);rw [hw6,hq6];clear hw6 hq6 hbn;refine so hK HK6.out (fun hHeld=>?_);clear hK K;have HMA:=aa (vp w6 (some ⟨q6,0,none⟩) 4 4 [a,b,c,m] (xp HOa.out HOb.out HOc.out HMO.out) (HN6.sl (n:=4) (size:=8) (eW (xp HOa.out HOb.out HOc.out HMO.out)) (by omega) (fun _ _ h=>h)));rw [HDE.out] at HMA;refine rd1 11 (fun K hK=>?_);go_simp
 (refine HMA.mono ?_;rintro e w7 ⟨rfl,hbn⟩;have HK7:=aa (HK6.later hbn);have HR7:=aa (HR6.later hbn);have HB7:=aa (ab HB6.out hbn);clear hbn)
 refine so hK (HK7.out) (fun hHeld=>?_);clear hK K;refine rdw 12 (fun K hK=>?_);refine au _ _ _ rfl (z+1) 0 _ (dl D) rfl rfl rfl _ ([]) (dl ap) ([]) (by simpa using HR7.out) rfl (dY HDO.out) (aq _ HDO.out) (bN _) ?_;intro w8 hp;refine so hK (HK7.grown hp.only (fun e=>by injection e with e;omega)) (fun hHeld=>?_);clear hK K;refine wpAnyH_done rfl ?_ _;have HR8:Hid (Bk w8 (z+1) 45 (dl D)):=by show Bk _ _ _ _;have:=hp.bk;simpa using this
 have HB8:=aa (ag HB7.out hp.only HB7.size (by have:=HZ.out;omega));clear hp;go_wp2_with fail
 refine bodyPost_ret (bH rfl _ _ (z+1) 45 (dl D) _ rfl HR8.out Tryz.underlying45 rfl (aq _ HDO.out)) rfl ?_;exact ⟨rfl,HB8.out⟩
def coD (L:List aX):List Int:=dU (jH L)
def stD (s:MsT):List Int:=hdD s.pc s.halt s.mem.length (dU (eG s.mem))
theorem xt (L:List aX):aO (coD L):=gz _
theorem jI (s:MsT):aO (stD s):=sm _ _ _ _
set_option maxRecDepth 20000 in
theorem uF (w:World) (c:Sln) (L:List aX) (h:bZ w w.heap.size c L):Calls Tryz.prog 10 #[.slice c.A c.N c.C] w fun e w'=>e=.returned (.tuple #[.agg (dl (coD L)).toArray,.int .i64 0])∧Below w.heap.size w w':=by
 obtain ⟨z,hz⟩:∃z,w.heap.size=z:=⟨_,rfl⟩;obtain ⟨w1,hw1⟩:∃w1,w.alloc (.cells #[.int .u8 0,.int .u8 0,.int .u8 0,.int .u8 0,.int .u8 0,.int .u8 0,.int .u8 0,.int .u8 0] 45)=w1:=⟨_,rfl⟩;have hr:Bk w1 z 45 (dl ap):=hw1▸Bk.at_ w _ _ hz rfl;have hb:Below w.heap.size w w1:=hw1▸ai w _;obtain ⟨D,hD⟩:∃D,coD L=D:=⟨_,rfl⟩;have HDO:Hid (aO D):=by show aO D;rw [←hD];exact xt _
 rw [hD];have HW:=aa hw1;have HB:=aa hb;have HZ:=aa hz;have HR:=aa hr;have HDE:=aa hD;have HC:=aa (kx w1 c L ((h.below hb).more hb.size));clear hr hw1 hz hb h hD;go_enter Tryz.func10,Tryz.ntmps10;go_upto_region 1 with fail
 rw [HW.out,HZ.out];go_wp2_with fail
 refine HC.mono ?_;rintro e w2 ⟨⟨T,hi,rfl,ht⟩,hbn⟩;have HT:=aa (kG w2 _ hi T _ ht);have HB2:=aa (ab HB.out hbn);have HR2:=aa (HR.later hbn);have he:(dgA (dU (jH L)))=(dl D).toArray:=by rw [←HDE.out];rfl
 rw [he] at HT;clear ht hbn HC he;go_wp2_with fail
 refine HT.mono ?_;rintro e w3 ⟨rfl,hbn⟩;have HB3:=aa (ab HB2.out hbn);have HR3:=aa (HR2.later hbn);clear hbn HT;go_wp2_with (with_reducible refine ah 45 _ _ rfl ?_)
 refine ak.go ?_;refine ae rfl 45 _ _ rfl z 0 (.agg (dl D).toArray) (dl D) rfl rfl rfl 45 [] (dl ap) [] (by simpa using HR3.out) rfl (dY HDO.out) (aq _ HDO.out) (bN _) ?_;intro w4 hp;have HR4:Hid (Bk w4 z 45 (dl D)):=by show Bk _ _ _ _;have:=hp.bk;simpa using this
 have HB4:=aa (ag HB3.out hp.only HB3.size (by have:=HZ.out;omega));clear hp;go_wp2_with fail
 refine bodyPost_ret (bp rfl _ _ z 45 (dl D) _ rfl HR4.out Tryz.underlying45 rfl (aq _ HDO.out)) rfl ?_;exact ⟨rfl,HB4.out⟩
set_option maxRecDepth 20000 in
theorem mz (w:World) (s:MsT) (A:Option Addr) (C:Nat) (hm:Sl w w.heap.size 1 A s.mem.length (s.mem.map (.int .i32))) (ok:eF s):Calls Tryz.prog 12 #[.agg (aF s.pc (.slice A s.mem.length C) s.halt).toArray] w fun e w'=>e=.returned (.tuple #[.agg (dl (stD s)).toArray,.int .i64 0])∧Below w.heap.size w w':=by
 obtain ⟨z,hz⟩:∃z,w.heap.size=z:=⟨_,rfl⟩;obtain ⟨w1,hw1⟩:∃w1,(w.alloc (.cells (aF s.pc (.slice A s.mem.length C) s.halt).toArray 38)).alloc (.cells #[.int .u8 0,.int .u8 0,.int .u8 0,.int .u8 0,.int .u8 0,.int .u8 0,.int .u8 0,.int .u8 0] 45)=w1:=⟨_,rfl⟩;have hk:Bk w1 z 38 (aF s.pc (.slice A s.mem.length C) s.halt):=hw1▸(Bk.at_ w _ _ hz rfl).alloc _;have hr:Bk w1 (z+1) 45 (dl ap):=hw1▸Bk.at_ _ _ _ (by simp [hz]) rfl;have hb:Below w.heap.size w w1:=hw1▸(ai w _).alloc (by simp) _;obtain ⟨D,hD⟩:∃D,stD s=D:=⟨_,rfl⟩;have HDO:Hid (aO D):=by show aO D;rw [←hD];exact jI _
 rw [hD];have HW:=aa hw1;have HB:=aa hb;have HZ:=aa hz;have HK:=aa hk;have HR:=aa hr;have HDE:=aa hD;have HC:=aa (iL w1 s A C (hm.later hb) ok);clear hk hr hw1 hz hb hm ok hD;go_enter Tryz.func12,Tryz.ntmps12;go_upto_region 1 with fail
 rw [HW.out,HZ.out];go_wp2_with (with_reducible refine aj rfl 38 _ rfl z rfl (aF s.pc (.slice A s.mem.length C) s.halt) 38 HK.out _ Tryz.underlying38 rfl (aN _ _ _) ?_)
 refine HC.mono ?_;rintro e w2 ⟨⟨T,hi,rfl,ht⟩,hbn⟩;have HT2:=aa ht;have HB2:=aa (ab HB.out hbn);have HR2:=aa (HR.later hbn);have HK2:=aa (HK.later hbn);clear ht hbn HC;go_wp2_with fail
 refine wp_region_held_drew (S:=fun wk=>Bk wk z 38 (aF s.pc (.slice A s.mem.length C) s.halt)) (by kernel_rfl) (HK2.later (ac w2 _ 1)) (fun hHeld=>?_);obtain ⟨w3,hw3⟩:∃wa,w2.drew=wa:=⟨_,rfl⟩;have hb3:Below w2.heap.size w2 w3:=hw3▸ac w2 w2.heap.size 1;rw [hw3] at hHeld ⊢;have HK3:=aa (HK2.later hb3);have HR3:=aa (HR2.later hb3);have HB3:=aa (ab HB2.out hb3);have HT3:=aa (HT2.later hb3);clear hw3 hb3;refine tk 0 ?_;refine tk 2 ?_;refine tk 4 ?_;refine tk 7 ?_;refine tkv 1 rfl (fun w hSw=>by have hcell:=(show w.cell? ⟨z,0,none⟩=some (.int .i64 s.pc) from hSw.cell 0);clear hSw;go_simp;try with_reducible rfl) ?_;refine tkv 3 rfl (fun w hSw=>by have hcell:=(show w.cell? ⟨z,2,none⟩=some (.int .i64 s.halt) from hSw.cell 2);clear hSw;go_simp;try with_reducible rfl) ?_;refine tkv 5 rfl (fun w hSw=>by have hcell:=(show w.cell? ⟨z,1,none⟩=some (.slice A s.mem.length C) from hSw.cell 1);clear hSw;go_simp;try with_reducible rfl) ?_;refine tk 6 ?_;obtain ⟨m,hm⟩:∃m,dU (eG s.mem)=m:=⟨_,rfl⟩;have HMO:Hid (aO m):=by show aO m;rw [←hm];exact gz _
 have HRT:Hid (∀wk lo hi,dE wk lo hi T (eG s.mem)→Calls Tryz.prog 33 #[.pointer (some ⟨T.g,0,none⟩)] wk fun e w'=>e=.returned (.agg (dl m).toArray)∧Below wk.heap.size wk w'):=fun wk lo hi h=>by rw [←hm];exact kG wk lo hi T _ h
 have HHD:Hid (∀wk,Calls Tryz.prog 36 #[.int .i64 s.pc,.int .i64 s.halt,.int .i64 s.mem.length,.agg (dl m).toArray] wk fun e w'=>e=.returned (.agg (dl D).toArray)∧Below wk.heap.size wk w'):=fun wk=>by rw [←HDE.out,stD,hm];exact gH wk _ _ _ m HMO.out
 clear hm;refine rd1 8 (fun K hK=>?_);go_simp
 (refine (HRT.out w3 _ hi HT3.out).mono ?_;rintro e w4 ⟨rfl,hbn⟩;have HK4:=aa (HK3.later hbn);have HR4:=aa (HR3.later hbn);have HB4:=aa (ab HB3.out hbn);clear hbn)
 refine so hK (HK4.out) (fun hHeld=>?_);clear hK K;refine rd1 9 (fun K hK=>?_);go_simp
 (refine (HHD.out w4).mono ?_;rintro e w5 ⟨rfl,hbn⟩;have HK5:=aa (HK4.later hbn);have HR5:=aa (HR4.later hbn);have HB5:=aa (ab HB4.out hbn);clear hbn)
 refine so hK (HK5.out) (fun hHeld=>?_);clear hK K;refine rdw 10 (fun K hK=>?_);refine au _ _ _ rfl (z+1) 0 _ (dl D) rfl rfl rfl _ ([]) (dl ap) ([]) (by simpa using HR5.out) rfl (dY HDO.out) (aq _ HDO.out) (bN _) ?_;intro w6 hp;refine so hK (HK5.grown hp.only (fun e=>by injection e with e;omega)) (fun hHeld=>?_);clear hK K;refine tk 11 ?_;refine wpAnyH_done rfl ?_ _;have HR6:Hid (Bk w6 (z+1) 45 (dl D)):=by show Bk _ _ _ _;have:=hp.bk;simpa using this
 have HB6:=aa (ag HB5.out hp.only HB5.size (by have:=HZ.out;omega));clear hp;go_wp2_with fail
 refine bodyPost_ret (bp rfl _ _ (z+1) 45 (dl D) _ rfl HR6.out Tryz.underlying45 rfl (aq _ HDO.out)) rfl ?_;exact ⟨rfl,HB6.out⟩
end Go.Proofs.YtllbdpdnpaocnaaGreatDoor
