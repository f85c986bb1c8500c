/- Part of the proof of WholeStep. -/
import Derived.Test.YtllbdpdnpaocnaaGreatDoorZAE
namespace Go.Proofs.YtllbdpdnpaocnaaGreatDoor
set_option linter.unusedSimpArgs false
set_option linter.unusedVariables false
set_option linter.constructorNameAsVariable false
open Go.RowKit Go.Maps
def AH (p:PgT):Prop:=(∀v∈p.paL,jl v=true)∧p.pa.N≤4
def rh (w:World) (b n:Nat):Prop:=∃D:DataW Unit,w.ownsMap Tryz.prog 9 (plainElem Tryz.prog 4) b n D
theorem rh.later {w w' : World} {b n:Nat} (h:rh w b n) (hb:Below w.heap.size w w'):rh w' b n:=by obtain ⟨D,h⟩:=h;exact ⟨D,h.kept (av hb) (by simp)⟩
theorem Ck.kept {w w' : World} {lo g mb c m n:Nat} (h:Ck w lo g mb c) (hm:rh w m n) (hne:mb≠m) (hg:w.grownBy w' (some m)):Ck w' lo g mb c:=by obtain ⟨⟨part,fors,h1⟩,⟨n',D,h2,h3⟩,h4⟩:=h;obtain ⟨D',hm⟩:=hm;exact ⟨⟨part,fors,h1.grown hg (by have:=dp h1 hm;simpa using this)⟩,⟨n',D,h2.kept hg (by simpa using hne),h3⟩,h4⟩
set_option maxRecDepth 20000 in
set_option maxHeartbeats 1000000 in
theorem pT (w:World) (lo g mb c:Nat) (hc:Ck w lo g mb c) (p:PgT) (h:cI w lo p) (hL:cX w) (h6:6≤lo) (hlo:lo≤w.heap.size):Calls Tryz.prog 104 #[.pointer (some ⟨g,0,none⟩),.agg (pgC p).toArray] w fun e w'=>kK (AH p) e∧Below lo w w'∧Ck w' lo g mb c:=by
 obtain ⟨z,hz⟩:∃z,w.heap.size=z:=⟨_,rfl⟩;obtain ⟨w1,hw1⟩:∃w1,w.alloc (.cells (pgC p).toArray 66)=w1:=⟨_,rfl⟩;have hk:Bk w1 z 66 (pgC p):=hw1▸Bk.at_ w _ _ hz rfl;have hb:Below w.heap.size w w1:=hw1▸ai w _;have hN2:p.pa.N≤1048576:=by have:=h.few;have:=h.pa.len;unfold PgT.size at *; omega
 have HLN:=aa h.pa.len;obtain ⟨ma,hma⟩:∃ma,w1.heap.size=ma:=⟨_,rfl⟩;obtain ⟨w2,hw2⟩:∃w2,w1.alloc (.map #[] 0)=w2:=⟨_,rfl⟩;have hmm:=run_makeMap (P:=Tryz.prog) 241 w1;rw [hw2,hma] at hmm;have hmb:rh w2 ma 0:=⟨.map [],by rw [←hw2,←hma];exact World.ownsMap_made w1 _ _ _⟩;have hb2:Below w1.heap.size w1 w2:=hw2▸ai w1 _;have HNE:Hid (mb≠ma∧lo≤ma):=⟨by have:=(hc.later hb).lt;omega,by have:=hb.size;omega⟩;have HW:=aa hw1;have HB:=aa (hb.mono hlo);have HB1:=aa ((hb.trans (hb2.mono hb.size)).mono hlo);have HP:=aa h;have HZ:=aa hz;have HK1:=aa hk;have HK:=aa (hk.later hb2);have HLA:=aa hL;have HC1:=aa (hc.later hb);have HC:=aa ((hc.later hb).later hb2);have HM:=aa hmb;have c6:=hk.cell 6;simp only [pgC,List.getElem?_cons_succ,List.getElem?_cons_zero] at c6;have c6' : w2.cell? ⟨z,6,none⟩=some (.slice p.pa.A p.pa.N p.pa.C):=(hk.later hb2).cell 6;clear hk hw1 hz hb hc hL h hw2 hma hb2 hmb;go_enter Tryz.func104,Tryz.ntmps104;go_upto_region 1 with fail
 rw [HW.out,HZ.out];go_wp2_with fail
 refine (aD _ _ _ (by decide) _).mono ?_;rintro e w' ⟨⟨hmb,rfl⟩ | ⟨hmb,pn,ps,rfl,hpn⟩,rfl⟩;rotate_left
 ·exact aA rfl ⟨.inr ⟨pn,ps,rfl,hpn⟩,HB.out,HC1.out⟩
 have HN4:Hid (p.pa.N≤4):=by show p.pa.N≤4;have:=hmb;simp at this;omega
 clear hmb;go_wp2_with fail
 clear c6 c6';go_loopw [6,16] (fun _ i wr=>∃(k:Nat),k≤p.pa.N∧i=.int .i64 k∧Hid (Ck wr lo g mb c)∧Hid (rh wr ma k)∧Hid (Bk wr z 66 (pgC p))∧Hid (Below lo w wr)∧Hid (∀v∈p.paL.take k,jl v=true)) (fun _ i _=>p.pa.N - (intOf i).toNat)
 case atStart=>exact ⟨0,Nat.zero_le _,rfl,HC.out,HM.out,HK.out,HB1.out,fun v hv=>by simp at hv⟩
 case round=>
  obtain ⟨k,hk,rfl,HCr,HMr,HKr,hB,HV⟩:=hrel;by_cases hlt:k < p.pa.N
  ·obtain ⟨b,o,x,hA,hb,hr,hx,hok⟩:=(HP.pa.below hB.out).spot hlt;have HR2:=aa hr;have HX:=aa hx;have hnm:=hok.nm;clear hr hx hok;rw [hA];go_wp2_with (first | (with_reducible refine wpList_load_mid rfl 117 _ rfl b (o+k*4) rfl (vaC x) _ HR2.out Tryz.underlying117 rfl (aQ x) ?_) | (with_reducible refine ah 117 _ _ rfl ?_))
   refine ak.go ?_;obtain ⟨g3,hg3⟩:∃q,wr.heap.size=q:=⟨_,rfl⟩;rw [hg3];refine an 117 _ _ rfl g3 hg3 (vaC x) rfl rfl rfl rfl (aQ x) (bw x) ?_;intro w3 hk hbn;have HK3:=aa hk;have HB3:=aa hbn;clear hk hbn;have HC3:=aa (HCr.later HB3.out);have HP3:=aa (HKr.later HB3.out);have HM3:=aa (HMr.later HB3.out);have HBL3:=aa (hB.out.trans (HB3.mono (Nat.le_trans hlo hB.out.size)));go_wp2_with fail
   refine wp_region_held_drew (S:=fun wk=>wk.cell? ⟨g3,0,none⟩=some (.string x.nm)) (by kernel_rfl) ((HK3.later (ac w3 _ 1)).cell 0) (fun hHeld=>?_);have HBd:=aa (ac w3 w3.heap.size 1);refine tk 0 ?_;refine tk 3 ?_;refine tk 1 ?_;refine tk 4 ?_;refine rd1 2 (fun K hK=>?_);go_simp
   (refine (fY x.nm hnm _ (HLA.below h6 (HBL3.trans (HBd.mono (Nat.le_trans hlo HBL3.size))))).mono ?_;rintro e w4 ⟨⟨x4,rfl⟩,hbn⟩;have HB4:=aa (ab HBd.out hbn);have HBL4:=aa (HBL3.trans (HB4.mono (Nat.le_trans hlo HBL3.size)));have HC4:=aa (HC3.later HB4.out);clear hbn)
   refine so hK ((HK3.later HB4.out).cell 0) (fun hHeld=>?_);clear hK K;refine rd1 5 (fun K hK=>?_);go_simp;refine (aD x4 6 (x.nm) (by decide) _).mono ?_;rintro e w' ⟨⟨hmb,rfl⟩ | ⟨hmb,pn,ps,rfl,hpn⟩,rfl⟩;rotate_left
   ·exact bj (cx (bj (aA rfl ⟨.inr ⟨pn,ps,rfl,hpn⟩,HBL4.out,HC4.out⟩)))
   refine so hK ((HK3.later HB4.out).cell 0) (fun hHeld=>?_);clear hK K;refine wpAnyH_done rfl ?_ _;clear hmb;go_wp2_with fail
   obtain ⟨D,hD⟩:=(HM3.later HB4.out);obtain ⟨q,hq⟩:∃q,atB D (f8 x.nm)=q:=⟨_,rfl⟩;have HLK:Hid (∀wk,wk.ownsMap Tryz.prog 9 (plainElem Tryz.prog 4) ma k D→(Instr.lookup 241 (.map (some ma)) (.string x.nm) false).run Tryz.prog wk=.ok (.bool q) wk):=fun wk hwk=>by rw [←hq];exact vv Tryz.underlying241 Tryz.underlying9 Tryz.underlying4 (Tryz.zeroValue4 _) hwk hnm
   have HD:=aa hD;clear hq hD;refine wp_region_held_drew (S:=fun wk=>wk.cell? ⟨g3,0,none⟩=some (.string x.nm)∧wk.ownsMap (H:=Unit) Tryz.prog 9 (plainElem Tryz.prog 4) ma k D) (by kernel_rfl) ⟨(HK3.later (ab HB4.out (ac w4 _ 1))).cell 0,HD.drew⟩ (fun hHeld=>?_);obtain ⟨w5,hw5⟩:∃wa,w4.drew=wa:=⟨_,rfl⟩;have hb5:Below w4.heap.size w4 w5:=hw5▸ac w4 w4.heap.size 1;have HD5:Hid (w5.ownsMap (H:=Unit) Tryz.prog 9 (plainElem Tryz.prog 4) ma k D):=by show World.ownsMap _ _ _ _ _ _ _;rw [←hw5];exact HD.drew
   rw [hw5] at hHeld ⊢;have HB5:=aa (ab HB4.out hb5);have HC5:=aa (HC4.later hb5);have HBL5:=aa (HBL4.trans (hb5.mono (Nat.le_trans hlo HBL4.size)));clear hw5 hb5;refine tk 0 ?_;refine tk 1 ?_;refine tk 12 ?_;refine tkv 2 rfl (fun w hSw=>by have hcell:=hSw.1;clear hSw;go_simp;try with_reducible rfl) ?_;refine tkv 13 rfl (fun w hSw=>by have hcell:=hSw.1;clear hSw;go_simp;try with_reducible rfl) ?_;refine rd1 3 (fun K hK=>?_);go_simp
   (refine (eZ w5 lo g mb _ HC5.out x.nm hnm).mono ?_;rintro e w6 ⟨⟨x6,rfl⟩,rfl⟩)
   refine so hK (⟨(HK3.later HB5.out).cell 0,HD5.out⟩) (fun hHeld=>?_);clear hK K;refine tk 4 ?_;refine tk 5 ?_;cases x6 with
   | true=>
    refine tk0 6 ?_;refine tk0 7 ?_;refine tk0 8 ?_;refine tk0 9 ?_;refine tk0 10 ?_;refine tk 11 ?_;refine rd1 14 (fun K hK=>?_);go_simp;refine (aD false 7 (x.nm) (by decide) _).mono ?_;rintro e w' ⟨⟨hmb,rfl⟩ | ⟨hmb,pn,ps,rfl,hpn⟩,rfl⟩;rotate_left
    ·exact bj (cx (bj (aA rfl ⟨.inr ⟨pn,ps,rfl,hpn⟩,HBL5.out,HC5.out⟩)))
    refine so hK (⟨(HK3.later HB5.out).cell 0,HD5.out⟩) (fun hHeld=>?_);clear hK K;cases hmb
   | false=>
    refine tk 6 ?_;refine tk 7 ?_;refine tkv 8 rfl (fun w hSw=>by have hcell:=hSw.1;clear hSw;go_simp;try with_reducible rfl) ?_;refine tkv 9 rfl (fun w hSw=>by have hcell:=HLK.out w hSw.2;clear hSw;go_simp;try with_reducible rfl) ?_;refine tk 10 ?_;refine tk 11 ?_;refine rd1 14 (fun K hK=>?_);go_simp;refine (aD (!q) 7 (x.nm) (by decide) _).mono ?_;rintro e w' ⟨⟨hmb,rfl⟩ | ⟨hmb,pn,ps,rfl,hpn⟩,rfl⟩;rotate_left
    ·exact bj (cx (bj (aA rfl ⟨.inr ⟨pn,ps,rfl,hpn⟩,HBL5.out,HC5.out⟩)))
    refine so hK (⟨(HK3.later HB5.out).cell 0,HD5.out⟩) (fun hHeld=>?_);clear hK K;refine wpAnyH_done rfl ?_ _;clear hmb;have d0:w5.cell? ⟨g3,0,none⟩=some (.string x.nm):=(HK3.later HB5.out).cell 0;have d1:w5.cell? ⟨g3,1,none⟩=some (.int .i64 x.sz):=(HK3.later HB5.out).cell 1;go_wp2_with fail
    refine (aD _ _ _ (by decide) _).mono ?_;rintro e w' ⟨⟨hmb,rfl⟩ | ⟨hmb,pn,ps,rfl,hpn⟩,rfl⟩;rotate_left
    ·exact bj (cx (bj (aA rfl ⟨.inr ⟨pn,ps,rfl,hpn⟩,HBL5.out,HC5.out⟩)))
    clear hmb d0 d1;go_wp2_with fail
    obtain ⟨u,hu⟩:∃u,jl x=u:=⟨_,rfl⟩;have HSP:Hid (∀wk,Calls Tryz.prog 162 #[.agg (vaC x).toArray] wk fun e w'=>e=.returned (.bool u)∧Below wk.heap.size wk w'):=fun wk=>by rw [←hu];exact pS wk x
    have HU:=aa hu;clear hu;refine wp_region_held_drew (S:=fun wk=>Bk wk g3 117 (vaC x)) (by kernel_rfl) (HK3.later (ab HB5.out (ac w5 _ 1))) (fun hHeld=>?_);obtain ⟨w6,hw6⟩:∃wa,w5.drew=wa:=⟨_,rfl⟩;have hb6:Below w5.heap.size w5 w6:=hw6▸ac w5 w5.heap.size 1;rw [hw6] at hHeld ⊢;have HB6:=aa (ab HB5.out hb6);have HC6:=aa (HC5.later hb6);have HBL6:=aa (HBL5.trans (hb6.mono (Nat.le_trans hlo HBL5.size)));clear hw6 hb6;refine tkR 0 (vaC x) (fun w hSw=>(Bk.range (pre:=[]) (post:=[]) (by simpa using hSw) rfl)) Tryz.underlying117 ((aQ x)) ?_;refine tk 2 ?_;refine tkv 3 rfl (fun w hSw=>by have hcell:=(show w.cell? ⟨g3,0,none⟩=some (.string x.nm) from hSw.cell 0);clear hSw;go_simp;try with_reducible rfl) ?_;refine rd1 1 (fun K hK=>?_);go_simp
    (refine (HSP.out w6).mono ?_;rintro e w7 ⟨rfl,hbn⟩;have HB7:=aa (ab HB6.out hbn);have HC7:=aa (HC6.later hbn);have HBL7:=aa (HBL6.trans (hbn.mono (Nat.le_trans hlo HBL6.size)));clear hbn)
    refine so hK (HK3.later HB7.out) (fun hHeld=>?_);clear hK K;refine rd1 4 (fun K hK=>?_);go_simp;refine (aD u 2 (x.nm) (by decide) _).mono ?_;rintro e w' ⟨⟨hmb,rfl⟩ | ⟨hmb,pn,ps,rfl,hpn⟩,rfl⟩;rotate_left
    ·exact bj (cx (bj (aA rfl ⟨.inr ⟨pn,ps,rfl,hpn⟩,HBL7.out,HC7.out⟩)))
    refine so hK (HK3.later HB7.out) (fun hHeld=>?_);clear hK K;refine wpAnyH_done rfl ?_ _;subst hmb;have d0:w7.cell? ⟨g3,0,none⟩=some (.string x.nm):=(HK3.later HB7.out).cell 0;obtain ⟨D7,hD7⟩:=(HM3.later HB7.out);have HD7:=aa hD7;have HX7:=aa (WideMaps.keyOf_string_mk (P:=Tryz.prog) Tryz.underlying9 (s:=x.nm) (by unfold maxLen;omega));clear hD7;go_wp2_with (at_mapUpdate;refine wpList_mapUpdate_own _ rfl _ _ _ 241 rfl 9 4 (string_keyed Tryz.underlying9) Tryz.underlying241 _ ma k D7 rfl HD7.out (by unfold maxLen;omega) _ _ _ rfl rfl HX7.out _ [] (plainElem_bool Tryz.underlying4 true) ?_;intro w8 hown8 hg8;have HM8:Hid (rh w8 ma (k+1)):=⟨_,hown8⟩;have HB8:=aa (ag HBL7.out hg8 (Nat.le_trans hlo HBL7.size) HNE.out.2);have HC8:=aa (HC7.kept ⟨D7,HD7.out⟩ HNE.out.1 hg8);have HP8:=aa ((HP3.later HB7.out).grown hg8 (by have:=dp (HP3.later HB7.out) HD7.out;simpa using this));clear hown8 hg8)
    go_roundw
    case rel=>exact ⟨k+1,by omega,by go_num,HC8,HM8,HP8,HB8,fun v hv=>by rw [cF HX.out] at hv;rcases List.mem_append.1 hv with hv | hv;exact HV.out v hv;simp at hv;subst hv;exact HU.out⟩
    case measure=>simp [intOf];omega
  ·obtain rfl:k=p.pa.N:=by omega
   have hv:∀v∈p.paL,jl v=true:=by have:=HV.out;rwa [List.take_of_length_le (by rw [HLN.out];exact Nat.le_refl _)] at this
   have HVV:=aa hv;clear hv;have HCL:=aa (vJ wr p ((HP.below hB.out).more (Nat.le_trans hlo hB.out.size)));go_wp2_with (first | (with_reducible refine aj rfl 66 _ rfl z rfl (pgC p) 66 HKr.out _ Tryz.underlying66 rfl (db p) ?_) | (go_at_call 163;refine (HCL.out).mono ?_;rintro e w3 ⟨⟨v3,rfl⟩,hb3⟩;have HB3:=aa hb3;clear hb3))
   have hbl:=hB.out.trans (HB3.mono (Nat.le_trans hlo hB.out.size));refine (aD _ _ _ (by decide) _).mono ?_;rintro e w' ⟨⟨hmb,rfl⟩ | ⟨hmb,pn,ps,rfl,hpn⟩,rfl⟩
   ·go_wp2_with fail
    refine bodyPost_end (results_none rfl _ _ _) rfl ?_;exact ⟨.inl ⟨rfl,HVV.out,HN4.out⟩,hbl,HCr.later HB3.out⟩
   ·exact aA rfl ⟨.inr ⟨pn,ps,rfl,hpn⟩,hbl,HCr.later HB3.out⟩
set_option maxRecDepth 20000 in
theorem ri (w:World) (lo g mb c:Nat) (hc:Ck w lo g mb c) (kd:Int) (last:Bool):Calls Tryz.prog 252 #[.pointer (some ⟨g,0,none⟩),.int .i64 kd,.bool last] w fun e w'=>fq e∧w=w':=by
 obtain ⟨part,fors,hk⟩:=hc.bk;have c1:=hk.cell 1;simp only [List.getElem?_cons_zero,List.getElem?_cons_succ] at c1;clear hk hc;go_enter Tryz.func252,Tryz.ntmps252;by_cases h4:kd=4
 ·subst h4;go_wp2_with fail
  go_ret;exact ⟨⟨_,rfl⟩,rfl⟩
 by_cases h5:kd=5
 ·subst h5;go_wp2_with fail
  go_ret;exact ⟨⟨_,rfl⟩,rfl⟩
 by_cases h6:kd=6
 ·subst h6;go_wp2_with fail
  go_ret;exact ⟨⟨_,rfl⟩,rfl⟩
 by_cases h7:kd=7
 ·subst h7;go_wp2_with fail
  go_ret;exact ⟨⟨_,rfl⟩,rfl⟩
 by_cases h8:kd=8
 ·subst h8;go_wp2_with fail
  go_ret;exact ⟨⟨_,rfl⟩,rfl⟩
 by_cases h9:kd=9
 ·subst h9;cases hs:(part.toList == [112,97,121])
  ·go_wp2_with fail
   go_ret;exact ⟨⟨_,rfl⟩,rfl⟩
  ·go_wp2_with fail
   go_ret;exact ⟨⟨_,rfl⟩,rfl⟩
 go_wp2_with fail
 go_ret;exact ⟨⟨_,rfl⟩,rfl⟩
set_option maxRecDepth 20000 in
set_option maxHeartbeats 1000000 in
theorem pU (w:World) (lo g mb c:Nat) (hc:Ck w lo g mb c) (kd:Int) (nm:ByteArray) (A:Option Addr) (N C:Nat) (l h:Int) (A1:Option Addr) (N1 C1:Nat) (A2:Option Addr) (N2 C2:Nat) (hnm:nm.size≤1048576):Calls Tryz.prog 253 #[.pointer (some ⟨g,0,none⟩),.agg (aR kd nm A N C l h A1 N1 C1 A2 N2 C2).toArray] w fun e w'=>kK True e∧Below w.heap.size w w':=by
 obtain ⟨z,hz⟩:∃z,w.heap.size=z:=⟨_,rfl⟩;obtain ⟨w1,hw1⟩:∃w1,w.alloc (.cells (aR kd nm A N C l h A1 N1 C1 A2 N2 C2).toArray 186)=w1:=⟨_,rfl⟩;have hk:Bk w1 z 186 (aR kd nm A N C l h A1 N1 C1 A2 N2 C2):=hw1▸Bk.at_ w _ _ hz rfl;have hb:Below w.heap.size w w1:=hw1▸ai w _;have HW:=aa hw1;have HB:=aa hb;have HZ:=aa hz;have HK:=aa hk;have HC:=aa (hc.later hb);clear hk hw1 hz hb hc;go_enter Tryz.func253,Tryz.ntmps253;go_upto_region 1 with fail
 rw [HW.out,HZ.out];refine wp_region_held_drew (S:=fun wk=>Bk wk z 186 (aR kd nm A N C l h A1 N1 C1 A2 N2 C2)) (by kernel_rfl) (HK.later (ac w1 _ 1)) (fun hHeld=>?_);obtain ⟨w3,hw3⟩:∃wa,w1.drew=wa:=⟨_,rfl⟩;have hb3:Below w1.heap.size w1 w3:=hw3▸ac w1 w1.heap.size 1;rw [hw3] at hHeld ⊢;have HB3:=aa hb3;have HC3:=aa (HC.later hb3);clear hw3 hb3;refine tk 0 ?_;refine tk 1 ?_;refine tk 4 ?_;refine tkv 2 rfl (fun w hSw=>by have hcell:=(show w.cell? ⟨z,1,none⟩=some (.string nm) from hSw.cell 1);clear hSw;go_simp;try with_reducible rfl) ?_;refine tkv 5 rfl (fun w hSw=>by have hcell:=(show w.cell? ⟨z,1,none⟩=some (.string nm) from hSw.cell 1);clear hSw;go_simp;try with_reducible rfl) ?_;refine rd1 3 (fun K hK=>?_);go_simp
 (refine (eZ w3 lo g mb _ HC3.out nm hnm).mono ?_;rintro e w4 ⟨⟨x4,rfl⟩,rfl⟩)
 refine so hK (HK.later HB3.out) (fun hHeld=>?_);clear hK K;refine rd1 6 (fun K hK=>?_);go_simp;refine (aD x4 6 (nm) (by decide) _).mono ?_;rintro e w' ⟨⟨hmb,rfl⟩ | ⟨hmb,pn,ps,rfl,hpn⟩,rfl⟩;rotate_left
 ·exact aA rfl ⟨.inr ⟨pn,ps,rfl,hpn⟩,ab HB.out HB3.out⟩
 refine so hK (HK.later HB3.out) (fun hHeld=>?_);clear hK K;refine wpAnyH_done rfl ?_ _;clear hmb;have d0:w3.cell? ⟨z,0,none⟩=some (.int .i64 kd):=(HK.later HB3.out).cell 0;by_cases h1:kd=1
 ·subst h1;go_wp2_with fail
  clear d0;obtain ⟨n4,D4,hm4,_⟩:=(HC3.out).mp;obtain ⟨part4,fors4,hk4⟩:=(HC3.out).bk;have HLK:Hid (∀wk,wk.ownsMap Tryz.prog 9 (plainElem Tryz.prog 240) mb n4 D4→(Instr.lookup 178 (.map (some mb)) (.string nm) false).run Tryz.prog wk=.ok (.int .i64 (atI D4 (f8 nm))) wk):=fun wk hwk=>gT Tryz.underlying178 Tryz.underlying9 Tryz.underlying240 (Tryz.zeroValue240 _) hwk hnm;obtain ⟨q,hq⟩:∃q,atI D4 (f8 nm)=q:=⟨_,rfl⟩;rw [hq] at HLK;have HM4:=aa hm4;have HK4:=aa hk4;clear hm4 hk4 hq;refine wp_region_held_drew (S:=fun wk=>Bk wk z 186 (aR 1 nm A N C l h A1 N1 C1 A2 N2 C2)∧wk.cell? ⟨g,0,none⟩=some (.map (some mb))∧wk.ownsMap (H:=Unit) Tryz.prog 9 (plainElem Tryz.prog 240) mb n4 D4) (by kernel_rfl) ⟨HK.later (ab HB3.out (ac w3 _ 1)),(HK4.later (ac w3 _ 1)).cell 0,HM4.drew⟩ (fun hHeld=>?_);have HB5:=aa (ab HB3.out (ac w3 w3.heap.size 1));have HS5:Hid (w3.drew.cell? ⟨g,0,none⟩=some (.map (some mb))∧w3.drew.ownsMap (H:=Unit) Tryz.prog 9 (plainElem Tryz.prog 240) mb n4 D4):=⟨(HK4.later (ac w3 _ 1)).cell 0,HM4.drew⟩;refine tk 0 ?_;refine tk 4 ?_;refine tk 7 ?_;refine tk 9 ?_;refine tk 1 ?_;refine tkv 5 rfl (fun w hSw=>by have hcell:=(show w.cell? ⟨z,1,none⟩=some (.string nm) from hSw.1.cell 1);clear hSw;go_simp;try with_reducible rfl) ?_;refine tkv 10 rfl (fun w hSw=>by have hcell:=(show w.cell? ⟨z,1,none⟩=some (.string nm) from hSw.1.cell 1);clear hSw;go_simp;try with_reducible rfl) ?_;refine tk 2 ?_;refine tkv 3 rfl (fun w hSw=>by have hcell:=hSw.2.1;clear hSw;go_simp;try with_reducible rfl) ?_;refine tkv 6 rfl (fun w hSw=>by have hcell:=HLK.out w hSw.2.2;clear hSw;go_simp;try with_reducible rfl) ?_;refine tk 8 ?_;refine rd1 11 (fun K hK=>?_);go_simp;refine (aD _ 11 (nm) (by decide) _).mono ?_;rintro e w' ⟨⟨hmb,rfl⟩ | ⟨hmb,pn,ps,rfl,hpn⟩,rfl⟩;rotate_left
  ·exact aA rfl ⟨.inr ⟨pn,ps,rfl,hpn⟩,ab HB.out HB5.out⟩
  refine so hK (⟨HK.later HB5.out,HS5.out⟩) (fun hHeld=>?_);clear hK K;refine wpAnyH_done rfl ?_ _;clear hmb;have d0:w3.drew.cell? ⟨z,0,none⟩=some (.int .i64 1):=(HK.later HB5.out).cell 0;go_wp2_with fail
  refine bodyPost_end (results_none rfl _ _ _) rfl ?_;exact ⟨.inl ⟨rfl,trivial⟩,ab HB.out HB5.out⟩
 ·go_wp2_with fail
  clear d0;obtain ⟨n4,D4,hm4,_⟩:=(HC3.out).mp;obtain ⟨part4,fors4,hk4⟩:=(HC3.out).bk;have HLK:Hid (∀wk,wk.ownsMap Tryz.prog 9 (plainElem Tryz.prog 240) mb n4 D4→(Instr.lookup 178 (.map (some mb)) (.string nm) false).run Tryz.prog wk=.ok (.int .i64 (atI D4 (f8 nm))) wk):=fun wk hwk=>gT Tryz.underlying178 Tryz.underlying9 Tryz.underlying240 (Tryz.zeroValue240 _) hwk hnm;obtain ⟨q,hq⟩:∃q,atI D4 (f8 nm)=q:=⟨_,rfl⟩;rw [hq] at HLK;have HM4:=aa hm4;have HK4:=aa hk4;clear hm4 hk4 hq;refine wp_region_held_drew (S:=fun wk=>Bk wk z 186 (aR kd nm A N C l h A1 N1 C1 A2 N2 C2)∧wk.cell? ⟨g,0,none⟩=some (.map (some mb))∧wk.ownsMap (H:=Unit) Tryz.prog 9 (plainElem Tryz.prog 240) mb n4 D4) (by kernel_rfl) ⟨HK.later (ab HB3.out (ac w3 _ 1)),(HK4.later (ac w3 _ 1)).cell 0,HM4.drew⟩ (fun hHeld=>?_);have HB5:=aa (ab HB3.out (ac w3 w3.heap.size 1));have HS5:Hid (w3.drew.cell? ⟨g,0,none⟩=some (.map (some mb))∧w3.drew.ownsMap (H:=Unit) Tryz.prog 9 (plainElem Tryz.prog 240) mb n4 D4):=⟨(HK4.later (ac w3 _ 1)).cell 0,HM4.drew⟩;refine tk 0 ?_;refine tk 4 ?_;refine tk 7 ?_;refine tk 9 ?_;refine tk 1 ?_;refine tkv 5 rfl (fun w hSw=>by have hcell:=(show w.cell? ⟨z,1,none⟩=some (.string nm) from hSw.1.cell 1);clear hSw;go_simp;try with_reducible rfl) ?_;refine tkv 10 rfl (fun w hSw=>by have hcell:=(show w.cell? ⟨z,1,none⟩=some (.string nm) from hSw.1.cell 1);clear hSw;go_simp;try with_reducible rfl) ?_;refine tk 2 ?_;refine tkv 3 rfl (fun w hSw=>by have hcell:=hSw.2.1;clear hSw;go_simp;try with_reducible rfl) ?_;refine tkv 6 rfl (fun w hSw=>by have hcell:=HLK.out w hSw.2.2;clear hSw;go_simp;try with_reducible rfl) ?_;refine tk 8 ?_;refine rd1 11 (fun K hK=>?_);go_simp;refine (aD _ 11 (nm) (by decide) _).mono ?_;rintro e w' ⟨⟨hmb,rfl⟩ | ⟨hmb,pn,ps,rfl,hpn⟩,rfl⟩;rotate_left
  ·exact aA rfl ⟨.inr ⟨pn,ps,rfl,hpn⟩,ab HB.out HB5.out⟩
  refine so hK (⟨HK.later HB5.out,HS5.out⟩) (fun hHeld=>?_);clear hK K;refine wpAnyH_done rfl ?_ _;clear hmb;have d0:w3.drew.cell? ⟨z,0,none⟩=some (.int .i64 kd):=(HK.later HB5.out).cell 0;by_cases h5:kd=5
  ·subst h5;go_wp2_with fail
   refine wp_region_held_drew (S:=fun wk=>Bk wk z 186 (aR 5 nm A N C l h A1 N1 C1 A2 N2 C2)) (by kernel_rfl) (HK.later (ab HB5.out (ac w3.drew _ 1))) (fun hHeld=>?_);have HB7:=aa (ab HB5.out (ac w3.drew w3.drew.heap.size 1));refine tk 0 ?_;refine tk 3 ?_;refine tkv 1 rfl (fun w hSw=>by have hcell:=(show w.cell? ⟨z,3,none⟩=some (.int .i64 l) from hSw.cell 3);clear hSw;go_simp;try with_reducible rfl) ?_;refine tkv 4 rfl (fun w hSw=>by have hcell:=(show w.cell? ⟨z,1,none⟩=some (.string nm) from hSw.cell 1);clear hSw;go_simp;try with_reducible rfl) ?_;refine rd1 2 (fun K hK=>?_);go_simp
   (refine (di _ _ _ _).mono ?_;rintro e w9 ⟨rfl,rfl⟩)
   refine so hK (HK.later HB7.out) (fun hHeld=>?_);clear hK K;refine rd1 5 (fun K hK=>?_);go_simp;refine (aD _ 2 (nm) (by decide) _).mono ?_;rintro e w' ⟨⟨hmb,rfl⟩ | ⟨hmb,pn,ps,rfl,hpn⟩,rfl⟩;rotate_left
   ·exact aA rfl ⟨.inr ⟨pn,ps,rfl,hpn⟩,ab HB.out HB7.out⟩
   refine so hK (HK.later HB7.out) (fun hHeld=>?_);clear hK K;refine wpAnyH_done rfl ?_ _;go_wp2_with fail
   refine bodyPost_end (results_none rfl _ _ _) rfl ?_;exact ⟨.inl ⟨rfl,trivial⟩,ab HB.out HB7.out⟩
  ·go_wp2_with fail
   refine bodyPost_end (results_none rfl _ _ _) rfl ?_;exact ⟨.inl ⟨rfl,trivial⟩,ab HB.out HB5.out⟩
set_option maxRecDepth 20000 in
set_option maxHeartbeats 1000000 in
theorem tL (w:World) (lo g mb c:Nat) (hc:Ck w lo g mb c) (hL:cX w) (kd:Int) (nm:ByteArray) (A:Option Addr) (N C:Nat) (l h:Int) (A1:Option Addr) (N1 C1:Nat) (A2:Option Addr) (N2 C2:Nat) (hnm:nm.size≤1048576):Calls Tryz.prog 254 #[.pointer (some ⟨g,0,none⟩),.agg (aR kd nm A N C l h A1 N1 C1 A2 N2 C2).toArray] w fun e w'=>kK True e∧Below w.heap.size w w':=by
 obtain ⟨z,hz⟩:∃z,w.heap.size=z:=⟨_,rfl⟩;obtain ⟨w1,hw1⟩:∃w1,w.alloc (.cells (aR kd nm A N C l h A1 N1 C1 A2 N2 C2).toArray 186)=w1:=⟨_,rfl⟩;have hk:Bk w1 z 186 (aR kd nm A N C l h A1 N1 C1 A2 N2 C2):=hw1▸Bk.at_ w _ _ hz rfl;have hb:Below w.heap.size w w1:=hw1▸ai w _;have HW:=aa hw1;have HB:=aa hb;have HZ:=aa hz;have HK:=aa hk;have HC:=aa (hc.later hb);have HL:=aa (hL.later hb);clear hk hw1 hz hb hc hL;go_enter Tryz.func254,Tryz.ntmps254;go_upto_region 1 with fail
 rw [HW.out,HZ.out];refine wp_region_held_drew (S:=fun wk=>wk.cell? ⟨z,1,none⟩=some (.string nm)) (by kernel_rfl) ((HK.later (ac w1 _ 1)).cell 1) (fun hHeld=>?_);have HB2:=aa (ac w1 w1.heap.size 1);refine tk 0 ?_;refine tk 3 ?_;refine tkv 1 rfl (fun w hSw=>by have hcell:=hSw;clear hSw;go_simp;try with_reducible rfl) ?_;refine tkv 4 rfl (fun w hSw=>by have hcell:=hSw;clear hSw;go_simp;try with_reducible rfl) ?_;refine rd1 2 (fun K hK=>?_);go_simp
 (refine (fY nm hnm _ (HL.later HB2.out)).mono ?_;rintro e w3 ⟨⟨x3,rfl⟩,hbn⟩;have HB3:=aa (ab HB2.out hbn);have HC3:=aa (HC.later HB3.out);clear hbn)
 refine so hK ((HK.later HB3.out).cell 1) (fun hHeld=>?_);clear hK K;refine rd1 5 (fun K hK=>?_);go_simp;refine (aD x3 6 (nm) (by decide) _).mono ?_;rintro e w' ⟨⟨hmb,rfl⟩ | ⟨hmb,pn,ps,rfl,hpn⟩,rfl⟩;rotate_left
 ·exact aA rfl ⟨.inr ⟨pn,ps,rfl,hpn⟩,ab HB.out HB3.out⟩
 refine so hK ((HK.later HB3.out).cell 1) (fun hHeld=>?_);clear hK K;refine wpAnyH_done rfl ?_ _;clear hmb;go_wp2_with fail
 refine wp_region_held_drew (S:=fun wk=>wk.cell? ⟨z,1,none⟩=some (.string nm)) (by kernel_rfl) ((HK.later (ab HB3.out (ac w3 _ 1))).cell 1) (fun hHeld=>?_);obtain ⟨w4,hw4⟩:∃wa,w3.drew=wa:=⟨_,rfl⟩;have hb4:Below w3.heap.size w3 w4:=hw4▸ac w3 w3.heap.size 1;rw [hw4] at hHeld ⊢;have HB4:=aa (ab HB3.out hb4);have HC4:=aa (HC3.later hb4);clear hw4 hb4;refine tk 0 ?_;refine tk 1 ?_;refine tk 5 ?_;refine tkv 2 rfl (fun w hSw=>by have hcell:=hSw;clear hSw;go_simp;try with_reducible rfl) ?_;refine tkv 6 rfl (fun w hSw=>by have hcell:=hSw;clear hSw;go_simp;try with_reducible rfl) ?_;refine rd1 3 (fun K hK=>?_);go_simp
 (refine (eZ w4 lo g mb _ HC4.out nm hnm).mono ?_;rintro e w9 ⟨⟨x4,rfl⟩,rfl⟩)
 refine so hK ((HK.later HB4.out).cell 1) (fun hHeld=>?_);clear hK K;refine tk 4 ?_;refine rd1 7 (fun K hK=>?_);go_simp;refine (aD _ 7 (nm) (by decide) _).mono ?_;rintro e w' ⟨⟨hmb,rfl⟩ | ⟨hmb,pn,ps,rfl,hpn⟩,rfl⟩;rotate_left
 ·exact aA rfl ⟨.inr ⟨pn,ps,rfl,hpn⟩,ab HB.out HB4.out⟩
 refine so hK ((HK.later HB4.out).cell 1) (fun hHeld=>?_);clear hK K;refine wpAnyH_done rfl ?_ _;clear hmb;go_wp2_with fail
 refine wp_region_held_drew (S:=fun wk=>Bk wk z 186 (aR kd nm A N C l h A1 N1 C1 A2 N2 C2)) (by kernel_rfl) (HK.later (ab HB4.out (ac w4 _ 1))) (fun hHeld=>?_);obtain ⟨w5,hw5⟩:∃wa,w4.drew=wa:=⟨_,rfl⟩;have hb5:Below w4.heap.size w4 w5:=hw5▸ac w4 w4.heap.size 1;rw [hw5] at hHeld ⊢;have HB5:=aa (ab HB4.out hb5);have HC5:=aa (HC4.later hb5);clear hw5 hb5;obtain ⟨x6,hx6⟩:∃x,dt l (-2147483648) 2147483647=x:=⟨_,rfl⟩;obtain ⟨x7,hx7⟩:∃x,dt h (-2147483648) 2147483647=x:=⟨_,rfl⟩;have HR6:Hid (Calls Tryz.prog 262 #[.int .i64 l] w5 fun e w'=>e=.returned (.bool x6)∧w5=w'):=by rw [←hx6];exact jC l w5
 have HR7:Hid (Calls Tryz.prog 262 #[.int .i64 h] w5 fun e w'=>e=.returned (.bool x7)∧w5=w'):=by rw [←hx7];exact jC h w5
 clear hx6 hx7;refine tk 0 ?_;refine tk 16 ?_;refine tkv 1 rfl (fun w hSw=>by have hcell:=(show w.cell? ⟨z,3,none⟩=some (.int .i64 l) from hSw.cell 3);clear hSw;go_simp;try with_reducible rfl) ?_;refine tkv 17 rfl (fun w hSw=>by have hcell:=(show w.cell? ⟨z,1,none⟩=some (.string nm) from hSw.cell 1);clear hSw;go_simp;try with_reducible rfl) ?_;refine rd1 2 (fun K hK=>?_);go_simp
 (refine HR6.mono ?_;rintro e w9 ⟨rfl,rfl⟩)
 refine so hK (HK.later HB5.out) (fun hHeld=>?_);clear hK K;refine tk 3 ?_;cases x6 with
 | false=>
  refine tk0 4 ?_;refine tk0 5 ?_;refine tk0 6 ?_;refine tk 7 ?_;refine tk 8 ?_;refine tk0 9 ?_;refine tk0 10 ?_;refine tk0 11 ?_;refine tk0 12 ?_;refine tk0 13 ?_;refine tk0 14 ?_;refine tk 15 ?_;refine rd1 18 (fun K hK=>?_);go_simp;refine (aD _ 2 (nm) (by decide) _).mono ?_;rintro e w' ⟨⟨hmb,rfl⟩ | ⟨hmb,pn,ps,rfl,hpn⟩,rfl⟩;rotate_left
  ·exact aA rfl ⟨.inr ⟨pn,ps,rfl,hpn⟩,ab HB.out HB5.out⟩
  refine so hK (HK.later HB5.out) (fun hHeld=>?_);clear hK K;refine wpAnyH_done rfl ?_ _;clear hmb;go_wp2_with fail
  obtain ⟨part4,fors4,hk4⟩:=(HC5.out).bk;have HK4:=aa hk4;clear hk4;refine wp_region_held_drew (S:=fun wk=>wk.cell? ⟨z,1,none⟩=some (.string nm)∧wk.cell? ⟨g,2,none⟩=some (.int .i64 fors4)) (by kernel_rfl) ⟨(HK.later (ab HB5.out (ac w5 _ 1))).cell 1,(HK4.later (ac w5 _ 1)).cell 2⟩ (fun hHeld=>?_);have HB7:=aa (ab HB5.out (ac w5 w5.heap.size 1));have HS7:Hid (w5.drew.cell? ⟨z,1,none⟩=some (.string nm)∧w5.drew.cell? ⟨g,2,none⟩=some (.int .i64 fors4)):=⟨(HK.later HB7.out).cell 1,(HK4.later (ac w5 _ 1)).cell 2⟩;refine tk 0 ?_;refine tk 5 ?_;refine tk 1 ?_;refine tkv 6 rfl (fun w hSw=>by have hcell:=hSw.1;clear hSw;go_simp;try with_reducible rfl) ?_;refine tk 2 ?_;refine tkv 3 rfl (fun w hSw=>by have hcell:=hSw.2;clear hSw;go_simp;try with_reducible rfl) ?_;refine tk 4 ?_;refine rd1 7 (fun K hK=>?_);go_simp;refine (aD _ 25 (nm) (by decide) _).mono ?_;rintro e w' ⟨⟨hmb,rfl⟩ | ⟨hmb,pn,ps,rfl,hpn⟩,rfl⟩;rotate_left
  ·exact aA rfl ⟨.inr ⟨pn,ps,rfl,hpn⟩,ab HB.out HB7.out⟩
  refine so hK (HS7.out) (fun hHeld=>?_);clear hK K;refine wpAnyH_done rfl ?_ _;clear hmb;go_wp2_with fail
  refine bodyPost_end (results_none rfl _ _ _) rfl ?_;exact ⟨.inl ⟨rfl,trivial⟩,ab HB.out HB7.out⟩
 | true=>
  refine tk 4 ?_;refine tkv 5 rfl (fun w hSw=>by have hcell:=(show w.cell? ⟨z,4,none⟩=some (.int .i64 h) from hSw.cell 4);clear hSw;go_simp;try with_reducible rfl) ?_;refine rd1 6 (fun K hK=>?_);go_simp
  (refine HR7.mono ?_;rintro e w9 ⟨rfl,rfl⟩)
  refine so hK (HK.later HB5.out) (fun hHeld=>?_);clear hK K;refine tk 7 ?_;refine tk 8 ?_;cases x7 with
  | false=>
   refine tk0 9 ?_;refine tk0 10 ?_;refine tk0 11 ?_;refine tk0 12 ?_;refine tk0 13 ?_;refine tk0 14 ?_;refine tk 15 ?_;refine rd1 18 (fun K hK=>?_);go_simp;refine (aD _ 2 (nm) (by decide) _).mono ?_;rintro e w' ⟨⟨hmb,rfl⟩ | ⟨hmb,pn,ps,rfl,hpn⟩,rfl⟩;rotate_left
   ·exact aA rfl ⟨.inr ⟨pn,ps,rfl,hpn⟩,ab HB.out HB5.out⟩
   refine so hK (HK.later HB5.out) (fun hHeld=>?_);clear hK K;refine wpAnyH_done rfl ?_ _;clear hmb;go_wp2_with fail
   obtain ⟨part4,fors4,hk4⟩:=(HC5.out).bk;have HK4:=aa hk4;clear hk4;refine wp_region_held_drew (S:=fun wk=>wk.cell? ⟨z,1,none⟩=some (.string nm)∧wk.cell? ⟨g,2,none⟩=some (.int .i64 fors4)) (by kernel_rfl) ⟨(HK.later (ab HB5.out (ac w5 _ 1))).cell 1,(HK4.later (ac w5 _ 1)).cell 2⟩ (fun hHeld=>?_);have HB7:=aa (ab HB5.out (ac w5 w5.heap.size 1));have HS7:Hid (w5.drew.cell? ⟨z,1,none⟩=some (.string nm)∧w5.drew.cell? ⟨g,2,none⟩=some (.int .i64 fors4)):=⟨(HK.later HB7.out).cell 1,(HK4.later (ac w5 _ 1)).cell 2⟩;refine tk 0 ?_;refine tk 5 ?_;refine tk 1 ?_;refine tkv 6 rfl (fun w hSw=>by have hcell:=hSw.1;clear hSw;go_simp;try with_reducible rfl) ?_;refine tk 2 ?_;refine tkv 3 rfl (fun w hSw=>by have hcell:=hSw.2;clear hSw;go_simp;try with_reducible rfl) ?_;refine tk 4 ?_;refine rd1 7 (fun K hK=>?_);go_simp;refine (aD _ 25 (nm) (by decide) _).mono ?_;rintro e w' ⟨⟨hmb,rfl⟩ | ⟨hmb,pn,ps,rfl,hpn⟩,rfl⟩;rotate_left
   ·exact aA rfl ⟨.inr ⟨pn,ps,rfl,hpn⟩,ab HB.out HB7.out⟩
   refine so hK (HS7.out) (fun hHeld=>?_);clear hK K;refine wpAnyH_done rfl ?_ _;clear hmb;go_wp2_with fail
   refine bodyPost_end (results_none rfl _ _ _) rfl ?_;exact ⟨.inl ⟨rfl,trivial⟩,ab HB.out HB7.out⟩
  | true=>
   refine tk 9 ?_;refine tk 11 ?_;refine tkv 10 rfl (fun w hSw=>by have hcell:=(show w.cell? ⟨z,4,none⟩=some (.int .i64 h) from hSw.cell 4);clear hSw;go_simp;try with_reducible rfl) ?_;refine tkv 12 rfl (fun w hSw=>by have hcell:=(show w.cell? ⟨z,3,none⟩=some (.int .i64 l) from hSw.cell 3);clear hSw;go_simp;try with_reducible rfl) ?_;refine tk 13 ?_;refine tk 14 ?_;refine tk 15 ?_;refine rd1 18 (fun K hK=>?_);go_simp;refine (aD _ 2 (nm) (by decide) _).mono ?_;rintro e w' ⟨⟨hmb,rfl⟩ | ⟨hmb,pn,ps,rfl,hpn⟩,rfl⟩;rotate_left
   ·exact aA rfl ⟨.inr ⟨pn,ps,rfl,hpn⟩,ab HB.out HB5.out⟩
   refine so hK (HK.later HB5.out) (fun hHeld=>?_);clear hK K;refine wpAnyH_done rfl ?_ _;clear hmb;go_wp2_with fail
   obtain ⟨part4,fors4,hk4⟩:=(HC5.out).bk;have HK4:=aa hk4;clear hk4;refine wp_region_held_drew (S:=fun wk=>wk.cell? ⟨z,1,none⟩=some (.string nm)∧wk.cell? ⟨g,2,none⟩=some (.int .i64 fors4)) (by kernel_rfl) ⟨(HK.later (ab HB5.out (ac w5 _ 1))).cell 1,(HK4.later (ac w5 _ 1)).cell 2⟩ (fun hHeld=>?_);have HB7:=aa (ab HB5.out (ac w5 w5.heap.size 1));have HS7:Hid (w5.drew.cell? ⟨z,1,none⟩=some (.string nm)∧w5.drew.cell? ⟨g,2,none⟩=some (.int .i64 fors4)):=⟨(HK.later HB7.out).cell 1,(HK4.later (ac w5 _ 1)).cell 2⟩;refine tk 0 ?_;refine tk 5 ?_;refine tk 1 ?_;refine tkv 6 rfl (fun w hSw=>by have hcell:=hSw.1;clear hSw;go_simp;try with_reducible rfl) ?_;refine tk 2 ?_;refine tkv 3 rfl (fun w hSw=>by have hcell:=hSw.2;clear hSw;go_simp;try with_reducible rfl) ?_;refine tk 4 ?_;refine rd1 7 (fun K hK=>?_);go_simp;refine (aD _ 25 (nm) (by decide) _).mono ?_;rintro e w' ⟨⟨hmb,rfl⟩ | ⟨hmb,pn,ps,rfl,hpn⟩,rfl⟩;rotate_left
   ·exact aA rfl ⟨.inr ⟨pn,ps,rfl,hpn⟩,ab HB.out HB7.out⟩
   refine so hK (HS7.out) (fun hHeld=>?_);clear hK K;refine wpAnyH_done rfl ?_ _;clear hmb;go_wp2_with fail
   refine bodyPost_end (results_none rfl _ _ _) rfl ?_;exact ⟨.inl ⟨rfl,trivial⟩,ab HB.out HB7.out⟩
end Go.Proofs.YtllbdpdnpaocnaaGreatDoor
