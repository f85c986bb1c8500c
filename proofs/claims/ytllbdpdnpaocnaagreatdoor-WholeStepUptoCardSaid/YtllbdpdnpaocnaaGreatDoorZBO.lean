/- Part of the proof of WholeStep. -/
import Derived.Test.YtllbdpdnpaocnaaGreatDoorZBN
namespace Go.Proofs.YtllbdpdnpaocnaaGreatDoor
set_option linter.unusedSimpArgs false
set_option linter.unusedVariables false
set_option linter.constructorNameAsVariable false
open Go.RowKit Go.Maps
theorem pL {l:List InT} {s:MsT} (hn:bV l s=none):stD (be l s)=hdD s.pc 2 s.mem.length (dP s):=by rw [iW hn];rfl
set_option maxRecDepth 20000 in
set_option maxHeartbeats 2000000 in
theorem tq (w:World) (R bf:List Int) (s:MsT) (t:eH) (L:List aX) (ok:eF s) (h0:s.halt=0) (hR:aO R) (hRe:coD L=R) (hbf:aO bf) (hbe:stD s=bf) (hL1:1≤L.length) (hL2:L.length≤2048) (hLo:∀i∈L,eB i) (hsh:qz L s t) (hin:gq w w.heap.size t) (hLd:cX w) (h6:6≤w.heap.size):Calls Tryz.prog 14 #[.agg (dl R).toArray,.int .i64 L.length,.agg (dl bf).toArray,.agg (bC s t).toArray] w fun e w'=>e=.returned (.tuple #[.agg (dl (stD (be (L.map toI) s))).toArray,.int .i64 0])∧Below w.heap.size w w':=by
 obtain ⟨D,hD⟩:∃D,stD (be (L.map toI) s)=D:=⟨_,rfl⟩;have HDO:Hid (aO D):=by show aO D;rw [←hD];exact jI _
 have HDE:=aa hD;rw [hD];have H0:=aa h0;have HSH:=aa hsh;have HIN:=aa hin;have HLD:=aa hLd;have H6:=aa h6;have HRE:=aa hRe;have HLO:=aa hLo;have hee:eqL (stD s) bf=true:=by rw [hbe,jN]
 clear hD h0 hRe hsh hin hLd h6 hLo hbe;have HEE:=aa hee;clear hee;obtain ⟨z,hz⟩:∃z,w.heap.size=z:=⟨_,rfl⟩;obtain ⟨w1,hw1⟩:∃w1,(((w.alloc (.cells (dl R).toArray 45)).alloc (.cells (dl bf).toArray 45)).alloc (.cells (bC s t).toArray 55)).alloc (.cells #[.int .u8 0,.int .u8 0,.int .u8 0,.int .u8 0,.int .u8 0,.int .u8 0,.int .u8 0,.int .u8 0] 45)=w1:=⟨_,rfl⟩;have hb:Below w.heap.size w w1:=hw1▸(((ai w _).alloc (by simp) _).alloc (by simp;omega) _).alloc (by simp;omega) _;have HA1:Hid (AfS w w1 z R bf s t):=⟨hb,hw1▸(((Bk.at_ w _ _ hz rfl).alloc _).alloc _).alloc _,hw1▸((Bk.at_ _ _ _ (by simp [hz]) rfl).alloc _).alloc _,hw1▸(Bk.at_ _ _ _ (by simp [hz]) rfl).alloc _,hw1▸Bk.at_ _ _ _ (by simp [hz]) rfl⟩;have HW:=aa hw1;have HZ:=aa hz;have HOK:=aa ok;have HRO:=aa hR;have HBO:=aa hbf;obtain ⟨N,hN⟩:∃N,L.length=N:=⟨_,rfl⟩;have HLN:=aa hN;obtain ⟨a,ha⟩:∃a,stD s=a:=⟨_,rfl⟩;have HAO:Hid (aO a):=by show aO a;rw [←ha];exact jI _
 have HHD:Hid (∀wk,Calls Tryz.prog 36 #[.int .i64 s.pc,.int .i64 s.halt,.int .i64 s.mem.length,.agg (dl (dP s)).toArray] wk fun e w'=>e=.returned (.agg (dl a).toArray)∧Below wk.heap.size wk w'):=fun wk=>by rw [←ha];exact gH wk _ _ _ _ (bS s)
 rw [hN] at hL1 hL2 ⊢;have HSR:=aa (fun wk=>kW wk s t ok);have HAE:=aa ha;have hl1:(1:Int)≤N:=by omega
 have hl2:(N:Int)≤2048:=by omega
 clear hb hw1 hz ok hR hbf hN ha;have HNE:Hid (eqL a bf=true):=by show _=true;rw [←HAE.out];exact HEE.out
 go_enter Tryz.func14,Tryz.ntmps14;go_upto_region 1 with fail
 rw [HW.out,HZ.out];go_wp2_with (with_reducible refine ao rfl 55 _ rfl (z+2) rfl (bC s t) 55 HA1.out.stp _ Tryz.underlying55 rfl (bv s t) ?_)
 refine (HSR.out w1).mono ?_;rintro e w2 ⟨rfl,hbn⟩;have HA2:=aa (HA1.later hbn);clear hbn;go_upto_region 3 with fail
 refine wp_region_held_drew (S:=fun wk=>Bk wk (z+1) 45 (dl bf)∧Bk wk (z+2) 55 (bC s t)) (by kernel_rfl) ⟨HA2.bf.later (ac w2 _ 1),HA2.stp.later (ac w2 _ 1)⟩ (fun hHeld=>?_);obtain ⟨w3,hw3⟩:∃wa,w2.drew=wa:=⟨_,rfl⟩;have hb3:Below w2.heap.size w2 w3:=hw3▸ac w2 w2.heap.size 1;rw [hw3] at hHeld ⊢;have HA3:=aa (HA2.later hb3);clear hw3 hb3;refine tk 0 ?_;refine tk 2 ?_;refine tk 4 ?_;refine tk 6 ?_;refine tkR 9 (dl bf) (fun w hSw=>(Bk.range (pre:=[]) (post:=[]) (by simpa using hSw.1) rfl)) Tryz.underlying45 ((aq _ HBO.out)) ?_;refine tkv 1 rfl (fun w hSw=>by have hcell:=(show w.cell? ⟨z+2,0,none⟩=some (.int .i64 s.pc) from hSw.2.cell 0);clear hSw;go_simp;try with_reducible rfl) ?_;refine tkv 3 rfl (fun w hSw=>by have hcell:=(show w.cell? ⟨z+2,1,none⟩=some (.int .i64 s.halt) from hSw.2.cell 1);clear hSw;go_simp;try with_reducible rfl) ?_;refine tkv 5 rfl (fun w hSw=>by have hcell:=(show w.cell? ⟨z+2,2,none⟩=some (.int .i64 s.mem.length) from hSw.2.cell 2);clear hSw;go_simp;try with_reducible rfl) ?_;refine tkR 7 (dl (dP s)) (fun w hSw=>(mC hSw.2)) Tryz.underlying45 ((aq _ (bS s))) ?_;refine rd1 8 (fun K hK=>?_);go_simp
 (refine (HHD.out w3).mono ?_;rintro e w4 ⟨rfl,hbn⟩;have HA4:=aa (HA3.later hbn);clear hbn)
 refine so hK (⟨HA4.bf,HA4.stp⟩) (fun hHeld=>?_);clear hK K;have hkr:=gI a bf HAO.out HBO.out;rw [HNE.out] at hkr;refine tk 10 ?_;clear hkr;refine wpAnyH_done rfl ?_ _;obtain ⟨p,hp⟩:∃p:Nat,s.pc=p:=⟨s.pc.toNat,by have:=HOK.pc;omega⟩;have HP:=aa hp;have c0:w4.cell? ⟨z+2,0,none⟩=some (.int .i64 (p:Int)):=by rw [←hp];exact HA4.stp.cell 0
 have c1:w4.cell? ⟨z+2,1,none⟩=some (.int .i64 0):=by rw [←H0.out];exact HA4.stp.cell 1
 clear hp;by_cases hge:N≤p
 ·have hge' : (N:Int)≤p:=by omega
  have hn:bV (L.map toI) s=none:=ko (by rw [List.length_map,HLN.out,HP.out];exact hge');have HSM:Hid (∀wk,Calls Tryz.prog 42 #[.agg (bC s t).toArray] wk fun e w'=>e=.returned (.agg (dl D).toArray)∧Below wk.heap.size wk w'):=fun wk=>by rw [←HDE.out,pL hn];exact nK wk s t H0.out
  obtain ⟨hi,hNP,hNR,hNW⟩:t.i=dZ∧t.NP=0∧t.NR=0∧t.NW=0:=by
   rcases HSH.out with ⟨_,e1,e2,e3,e4⟩ | ⟨hlt,_⟩
   ·refine ⟨e1,?_,?_,?_⟩
    ·rw [←oU HIN.p HIN.pk,e2];rfl
    ·rw [←HIN.r.len,e3];rfl
    ·rw [←HIN.w.len,e4];rfl
   ·rw [HLN.out,HP.out] at hlt;omega
  have HRI:=aa (oV HA4.stp);rw [hi] at HRI;have HBR:=aa (fun wk=>qB wk s t hNR hNW);obtain ⟨c15,_,_⟩:=fF HA4.stp;rw [hNP] at c15;have hki:=fun w=>yU w;clear hn hi hNP hNR hNW;go_wp2_with (first | (with_reducible refine fa rfl 51 _ rfl (z+2) 11 rfl (ay dZ) _ HRI.out Tryz.underlying51 rfl (aW _) ?_) | ((with_reducible refine aS rfl 51 _ rfl #[] ?_ _ (jD _) ?_);focus (simp [Act.eval,Act.put];done)) | (with_reducible refine ao rfl 55 _ rfl (z+2) rfl (bC s t) 55 HA4.out.stp _ Tryz.underlying55 rfl (bv s t) ?_))
  refine (HBR.out w4).mono ?_;rintro e w5 ⟨rfl,hbn⟩;have HA5:=aa (HA4.later hbn);clear hbn hki c0 c1 c15;go_wp2_with (with_reducible refine ao rfl 55 _ rfl (z+2) rfl (bC s t) 55 HA5.out.stp _ Tryz.underlying55 rfl (bv s t) ?_)
  refine (HSM.out w5).mono ?_;rintro e w6 ⟨rfl,hbn⟩;have HA6:=aa (HA5.later hbn);clear hbn;go_wp2_with (with_reducible refine ah 45 _ _ rfl ?_)
  refine ak.go ?_;refine ae rfl 45 _ _ rfl (z+3) 0 (.agg (dl D).toArray) (dl D) rfl rfl rfl 45 [] (dl ap) [] (by simpa using HA6.rb) rfl (dY HDO.out) (aq _ HDO.out) (bN _) ?_;intro wz hp;have HRz:Hid (Bk wz (z+3) 45 (dl D)):=by show Bk _ _ _ _;have:=hp.bk;simpa using this
  have HBz:=aa (ag HA6.hb hp.only HA6.hb.size (by have:=HZ.out;omega));clear hp;go_wp2_with fail
  refine bodyPost_ret (bp rfl _ _ (z+3) 45 (dl D) _ rfl HRz.out Tryz.underlying45 rfl (aq _ HDO.out)) rfl ?_;exact ⟨rfl,HBz.out⟩
 ·have hlt:p < N:=by omega
  have hlt' : (p:Int) < N:=by omega
  obtain ⟨_,hi,htp,htr,htw⟩:s.pc < L.length∧L[s.pc.toNat]?=some t.i∧t.p=dD (jH L) s.pc∧t.rs.map tri=(aE (L.map toI) s).1.map (oS s.mem)∧t.ws.map tri=(if 0≤(aE (L.map toI) s).2 then [(aE (L.map toI) s).2] else []).map (oS s.mem):=by
   rcases HSH.out with ⟨h,_⟩ | h
   ·rw [HLN.out,HP.out] at h;omega
   ·exact h
  rw [HP.out,Int.toNat_natCast] at hi;rw [HP.out] at htp;have hil:(jH L).length=N:=by rw [jH,List.length_map];exact HLN.out
  have hNP:dn N=t.NP:=by have h1:=oU HIN.p HIN.pk;rw [htp,j1 (by omega) (by omega),fI,hil] at h1;rw [dn,if_neg (by omega),h1]
  have hck:jv R (p:Int) (inD (toI t.i)) t.p=true:=by rw [htp,←HRE.out,coD];exact pw (by rw [jH,List.getElem?_map,hi];rfl) (by omega)
  have HHT:Hid (∀wk,Calls Tryz.prog 43 #[.int .i64 (N:Int)] wk fun e w'=>e=.returned (.int .i64 t.NP)∧wk=w'):=fun wk=>by have:=gg N wk;rw [hNP] at this;exact this
  have HIO:=aa (HLO.out t.i (List.mem_of_getElem? hi));have HCK:Hid (∀wk,Below w.heap.size w wk→Calls Tryz.prog 44 #[.agg (dl R).toArray,.int .i64 (p:Int),.agg (dl (inD (toI t.i))).toArray,.slice t.AP t.NP t.CP] wk fun e w'=>e=.returned (.bool true)∧Below wk.heap.size wk w'):=fun wk hbk=>by have:=mZ wk R (p:Int) (inD (toI t.i)) HRO.out (oP _) t.AP t.NP t.CP t.p HIN.pk ((HIN.p.below hbk).more hbk.size);rw [hck] at this;exact this
  have HI:=aa hi;have HTR:=aa htr;have HTW:=aa htw;clear hi htp htr htw hil hNP hck;go_upto_region 9 with fail
  refine wp_region_held_drew (S:=fun wk=>Bk wk z 45 (dl R)∧Bk wk (z+2) 55 (bC s t)) (by kernel_rfl) ⟨HA4.rt.later (ac w4 _ 1),HA4.stp.later (ac w4 _ 1)⟩ (fun hHeld=>?_);obtain ⟨w5,hw5⟩:∃wa,w4.drew=wa:=⟨_,rfl⟩;have hb5:Below w4.heap.size w4 w5:=hw5▸ac w4 w4.heap.size 1;rw [hw5] at hHeld ⊢;have HA5:=aa (HA4.later hb5);clear hw5 hb5 c0 c1;refine tk 0 ?_;refine tk 3 ?_;refine tkv 1 rfl (fun w hSw=>by have hcell:=(show w.cell? ⟨z+2,15,none⟩=some (.slice t.AP t.NP t.CP) from (fF hSw.2).1);clear hSw;go_simp;try with_reducible rfl) ?_;refine tk 2 ?_;refine rd1 4 (fun K hK=>?_);go_simp
  (refine (HHT.out w5).mono ?_;rintro e w6 ⟨rfl,rfl⟩)
  refine so hK (⟨HA5.rt,HA5.stp⟩) (fun hHeld=>?_);clear hK K;refine tk 5 ?_;refine tk 6 ?_;refine tk 8 ?_;refine tk 10 ?_;refine tk 13 ?_;refine tkR 7 (dl R) (fun w hSw=>(Bk.range (pre:=[]) (post:=[]) (by simpa using hSw.1) rfl)) Tryz.underlying45 ((aq _ HRO.out)) ?_;refine tkv 9 rfl (fun w hSw=>by have hcell:=(show w.cell? ⟨z+2,0,none⟩=some (.int .i64 (p:Int)) from by rw [←HP.out];exact hSw.2.cell 0);clear hSw;go_simp;try with_reducible rfl) ?_;refine tkR 11 (ay t.i) (fun w hSw=>(oV hSw.2)) Tryz.underlying51 ((aW _)) ?_;refine tkv 14 rfl (fun w hSw=>by have hcell:=(show w.cell? ⟨z+2,15,none⟩=some (.slice t.AP t.NP t.CP) from (fF hSw.2).1);clear hSw;go_simp;try with_reducible rfl) ?_;refine rd1 12 (fun K hK=>?_);go_simp
  (refine (jp w5 t.i HIO.out).mono ?_;rintro e w6 ⟨rfl,hbn⟩;have HA6:=aa (HA5.later hbn);clear hbn)
  refine so hK (⟨HA6.rt,HA6.stp⟩) (fun hHeld=>?_);clear hK K;refine rd1 15 (fun K hK=>?_);go_simp
  (refine (HCK.out w6 HA6.hb).mono ?_;rintro e w7 ⟨rfl,hbn⟩;have HA7:=aa (HA6.later hbn);clear hbn)
  refine so hK (⟨HA7.rt,HA7.stp⟩) (fun hHeld=>?_);clear hK K;refine tk 16 ?_;refine tk 17 ?_;refine wpAnyH_done rfl ?_ _;have c2:w7.cell? ⟨z+2,2,none⟩=some (.int .i64 s.mem.length):=HA7.stp.cell 2;go_wp2_with (with_reducible refine fa rfl 51 _ rfl (z+2) 11 rfl (ay t.i) _ (oV HA7.out.stp) Tryz.underlying51 rfl (aW _) ?_)
  obtain ⟨g,hg⟩:∃g,cw (toI t.i) N s.mem.length=g:=⟨_,rfl⟩;have HCR:=aa (mm w7 t.i N s.mem.length (HLD.below H6.out HA7.hb));rw [hg] at HCR;have hnx:bV (L.map toI) s=if g=true then some (toI t.i) else none:=by
   unfold bV;have e1:(L.map toI).length=N:=by rw [List.length_map];exact HLN.out
   have e2:(L.map toI)[p]?=some (toI t.i):=by rw [List.getElem?_map,HI.out];rfl
   rw [e1,HP.out,if_neg (by omega),Int.toNat_natCast,e2];simp only;rw [hg]
  have HNX:=aa hnx;clear hg c2 hnx;refine HCR.mono ?_;rintro e w8 ⟨rfl,hbn⟩;have HA8:=aa (HA7.later hbn);clear hbn HCR;cases g with
  | false=>
   have hn:bV (L.map toI) s=none:=by rw [HNX.out];rfl
   have hrd:aE (L.map toI) s=([],-1):=by unfold aE;rw [if_neg (by rw [H0.out];decide),hn]
   have HSM:Hid (∀wk,Calls Tryz.prog 42 #[.agg (bC s t).toArray] wk fun e w'=>e=.returned (.agg (dl D).toArray)∧Below wk.heap.size wk w'):=fun wk=>by rw [←HDE.out,pL hn];exact nK wk s t H0.out
   have hNR:t.NR=0:=by have h1:=congrArg List.length HTR.out;rw [hrd,List.length_map,HIN.r.len] at h1;simpa using h1
   have hNW:t.NW=0:=by have h1:=congrArg List.length HTW.out;rw [hrd,List.length_map,HIN.w.len] at h1;simpa using h1
   have HBR:=aa (fun wk=>qB wk s t hNR hNW);clear hn hrd hNR hNW;go_wp2_with (with_reducible refine ao rfl 55 _ rfl (z+2) rfl (bC s t) 55 HA8.out.stp _ Tryz.underlying55 rfl (bv s t) ?_)
   refine (HBR.out w8).mono ?_;rintro e w9 ⟨rfl,hbn⟩;have HA9:=aa (HA8.later hbn);clear hbn;go_wp2_with (with_reducible refine ao rfl 55 _ rfl (z+2) rfl (bC s t) 55 HA9.out.stp _ Tryz.underlying55 rfl (bv s t) ?_)
   refine (HSM.out w9).mono ?_;rintro e w10 ⟨rfl,hbn⟩;have HA10:=aa (HA9.later hbn);clear hbn;go_wp2_with (with_reducible refine ah 45 _ _ rfl ?_)
   refine ak.go ?_;refine ae rfl 45 _ _ rfl (z+3) 0 (.agg (dl D).toArray) (dl D) rfl rfl rfl 45 [] (dl ap) [] (by simpa using HA10.rb) rfl (dY HDO.out) (aq _ HDO.out) (bN _) ?_;intro wz hp;have HRz:Hid (Bk wz (z+3) 45 (dl D)):=by show Bk _ _ _ _;have:=hp.bk;simpa using this
   have HBz:=aa (ag HA10.hb hp.only HA10.hb.size (by have:=HZ.out;omega));clear hp;go_wp2_with fail
   refine bodyPost_ret (bp rfl _ _ (z+3) 45 (dl D) _ rfl HRz.out Tryz.underlying45 rfl (aq _ HDO.out)) rfl ?_;exact ⟨rfl,HBz.out⟩
  | true=>
   have hn:bV (L.map toI) s=some (toI t.i):=by rw [HNX.out];rfl
   obtain ⟨er,fr⟩:=xA HTR.out (fun r hr=>lO hr);obtain ⟨ew,fw⟩:=xA HTW.out (fun r hr=>by
    split at hr
    ·rename_i h;simp only [List.mem_singleton] at hr;subst hr;exact ⟨h,nh h⟩
    ·cases hr)
   have HDN:Hid (∀wk,Below w.heap.size w wk→Calls Tryz.prog 47 #[.agg (bC s t).toArray,.int .i64 N] wk fun e w'=>e=.returned (.tuple #[.agg (dl D).toArray,.int .i64 0])∧Below wk.heap.size wk w'):=fun wk hbk=>by have:=uJ wk s t L HOK.out H0.out hn HIO.out (by rw [HLN.out];omega) (by rw [HLN.out];omega) er ew fr fw ((HIN.below hbk).more hbk.size) (HLD.below H6.out hbk) (by have:=H6.out;have:=hbk.size;omega);rw [HLN.out,HDE.out] at this;exact this
   clear hn er fr ew fw;go_wp2_with (with_reducible refine ao rfl 55 _ rfl (z+2) rfl (bC s t) 55 HA8.out.stp _ Tryz.underlying55 rfl (bv s t) ?_)
   refine (HDN.out w8 HA8.hb).mono ?_;rintro e w9 ⟨rfl,hbn⟩;have HA9:=aa (HA8.later hbn);clear hbn;go_wp2_with (with_reducible refine ah 45 _ _ rfl ?_)
   refine ak.go ?_;refine ae rfl 45 _ _ rfl (z+3) 0 (.agg (dl D).toArray) (dl D) rfl rfl rfl 45 [] (dl ap) [] (by simpa using HA9.rb) rfl (dY HDO.out) (aq _ HDO.out) (bN _) ?_;intro wz hp;have HRz:Hid (Bk wz (z+3) 45 (dl D)):=by show Bk _ _ _ _;have:=hp.bk;simpa using this
   have HBz:=aa (ag HA9.hb hp.only HA9.hb.size (by have:=HZ.out;omega));clear hp;go_wp2_with fail
   refine bodyPost_ret (bp rfl _ _ (z+3) 45 (dl D) _ rfl HRz.out Tryz.underlying45 rfl (aq _ HDO.out)) rfl ?_;exact ⟨rfl,HBz.out⟩
structure CkS (w wk:World) (z:Nat) (R bf af:List Int) (s:MsT) (t:eH):Prop where
 hb:Below w.heap.size w wk
 rt:Bk wk z 45 (dl R)
 bf:Bk wk (z+1) 45 (dl bf)
 af:Bk wk (z+2) 45 (dl af)
 stp:Bk wk (z+3) 55 (bC s t)
theorem CkS.later {w wk wk' : World} {z:Nat} {R bf af:List Int} {s:MsT} {t:eH} (h:CkS w wk z R bf af s t) (hb:Below wk.heap.size wk wk'):CkS w wk' z R bf af s t:=⟨ab h.hb hb,h.rt.later hb,h.bf.later hb,h.af.later hb,h.stp.later hb⟩
set_option maxRecDepth 20000 in
set_option maxHeartbeats 1000000 in
theorem lQ (w:World) (R bf af D:List Int) (s:MsT) (t:eH) (N:Nat) (b:Bool) (hR:aO R) (hbf:aO bf) (haf:aO af) (hD:aO D) (hq:eqL D af=b) (HA:∀wk,Below w.heap.size w wk→Calls Tryz.prog 14 #[.agg (dl R).toArray,.int .i64 N,.agg (dl bf).toArray,.agg (bC s t).toArray] wk fun e w'=>e=.returned (.tuple #[.agg (dl D).toArray,.int .i64 0])∧Below wk.heap.size wk w'):Calls Tryz.prog 15 #[.agg (dl R).toArray,.int .i64 N,.agg (dl bf).toArray,.agg (dl af).toArray,.agg (bC s t).toArray] w fun e w'=>e=.returned (.int .i64 (if b then 0 else 23))∧Below w.heap.size w w':=by
 have HQ:=aa hq;clear hq;obtain ⟨z,hz⟩:∃z,w.heap.size=z:=⟨_,rfl⟩;obtain ⟨w1,hw1⟩:∃w1,(((w.alloc (.cells (dl R).toArray 45)).alloc (.cells (dl bf).toArray 45)).alloc (.cells (dl af).toArray 45)).alloc (.cells (bC s t).toArray 55)=w1:=⟨_,rfl⟩;have hb:Below w.heap.size w w1:=hw1▸(((ai w _).alloc (by simp) _).alloc (by simp;omega) _).alloc (by simp;omega) _;have HA1:Hid (CkS w w1 z R bf af s t):=⟨hb,hw1▸(((Bk.at_ w _ _ hz rfl).alloc _).alloc _).alloc _,hw1▸((Bk.at_ _ _ _ (by simp [hz]) rfl).alloc _).alloc _,hw1▸(Bk.at_ _ _ _ (by simp [hz]) rfl).alloc _,hw1▸Bk.at_ _ _ _ (by simp [hz]) rfl⟩;have HW:=aa hw1;have HZ:=aa hz;have HRO:=aa hR;have HBO:=aa hbf;have HFO:=aa haf;have HDO:=aa hD;have HAF:=aa HA;clear hb hw1 hz hR hbf haf hD HA;go_enter Tryz.func15,Tryz.ntmps15;go_upto_region 1 with fail
 rw [HW.out,HZ.out];go_wp2_with (first | (with_reducible refine ao rfl 45 _ rfl z rfl (dl R) 45 HA1.out.rt _ Tryz.underlying45 rfl (aq _ HRO.out) ?_) | (with_reducible refine ao rfl 45 _ rfl (z+1) rfl (dl bf) 45 HA1.out.bf _ Tryz.underlying45 rfl (aq _ HBO.out) ?_) | (with_reducible refine ao rfl 55 _ rfl (z+3) rfl (bC s t) 55 HA1.out.stp _ Tryz.underlying55 rfl (bv s t) ?_))
 refine (HAF.out w1 HA1.hb).mono ?_;rintro e w2 ⟨rfl,hbn⟩;have HA2:=aa (HA1.later hbn);clear hbn HA1 HAF;go_wp2_with (with_reducible refine ah 45 _ _ rfl ?_)
 refine ak.go ?_;obtain ⟨g3,hg3⟩:∃g,w2.heap.size=g:=⟨_,rfl⟩;have hbn:Below w2.heap.size w2 (w2.alloc (.cells #[.int .u8 0,.int .u8 0,.int .u8 0,.int .u8 0,.int .u8 0,.int .u8 0,.int .u8 0,.int .u8 0] 45)):=ai w2 _;have kt:Bk (w2.alloc (.cells #[.int .u8 0,.int .u8 0,.int .u8 0,.int .u8 0,.int .u8 0,.int .u8 0,.int .u8 0,.int .u8 0] 45)) g3 45 ([] ++ (dl ap ++ [])):=by rw [←hg3];exact Bk.new' w2 _ #[.int .u8 0,.int .u8 0,.int .u8 0,.int .u8 0,.int .u8 0,.int .u8 0,.int .u8 0,.int .u8 0] rfl
 rw [hg3];refine ae rfl 45 _ _ rfl g3 0 (.agg (dl D).toArray) (dl D) rfl rfl rfl 45 [] (dl ap) [] kt rfl (by rw [bT,bT,HDO.len];rfl) (aq _ HDO.out) (bN _) ?_;intro w3 hp;have hbn:Below w2.heap.size w2 w3:=hbn.grown hp.only hbn.size (fun q hq=>by injection hq with hq;omega);have HD3:Hid (Bk w3 g3 45 (dl D)):=by show Bk _ _ _ _;have:=hp.bk;simpa using this
 clear hp kt hg3;have HA3:=aa (HA2.later hbn);clear hbn HA2;have hkr:=gI D af HDO.out HFO.out;rw [HQ.out] at hkr;cases b with
 | true=>
  go_wp2_with (first | (with_reducible refine ao rfl 45 _ rfl g3 rfl (dl D) 45 HD3.out _ Tryz.underlying45 rfl (aq _ HDO.out) ?_) | (with_reducible refine ao rfl 45 _ rfl (z+2) rfl (dl af) 45 HA3.out.af _ Tryz.underlying45 rfl (aq _ HFO.out) ?_))
  clear hkr;go_ret;exact ⟨rfl,HA3.hb⟩
 | false=>
  go_wp2_with (first | (with_reducible refine ao rfl 45 _ rfl g3 rfl (dl D) 45 HD3.out _ Tryz.underlying45 rfl (aq _ HDO.out) ?_) | (with_reducible refine ao rfl 45 _ rfl (z+2) rfl (dl af) 45 HA3.out.af _ Tryz.underlying45 rfl (aq _ HFO.out) ?_))
  clear hkr;go_ret;exact ⟨rfl,HA3.hb⟩
set_option maxRecDepth 20000 in
set_option maxHeartbeats 1000000 in
theorem ts (w:World) (R bf af D:List Int) (s:MsT) (t:eH) (N:Nat) (hR:aO R) (hbf:aO bf) (haf:aO af) (hD:aO D) (HA:∀wk,Below w.heap.size w wk→Calls Tryz.prog 14 #[.agg (dl R).toArray,.int .i64 N,.agg (dl bf).toArray,.agg (bC s t).toArray] wk fun e w'=>e=.returned (.tuple #[.agg (dl D).toArray,.int .i64 23])∧Below wk.heap.size wk w'):Calls Tryz.prog 15 #[.agg (dl R).toArray,.int .i64 N,.agg (dl bf).toArray,.agg (dl af).toArray,.agg (bC s t).toArray] w fun e w'=>e=.returned (.int .i64 23)∧Below w.heap.size w w':=by
 obtain ⟨z,hz⟩:∃z,w.heap.size=z:=⟨_,rfl⟩;obtain ⟨w1,hw1⟩:∃w1,(((w.alloc (.cells (dl R).toArray 45)).alloc (.cells (dl bf).toArray 45)).alloc (.cells (dl af).toArray 45)).alloc (.cells (bC s t).toArray 55)=w1:=⟨_,rfl⟩;have hb:Below w.heap.size w w1:=hw1▸(((ai w _).alloc (by simp) _).alloc (by simp;omega) _).alloc (by simp;omega) _;have HA1:Hid (CkS w w1 z R bf af s t):=⟨hb,hw1▸(((Bk.at_ w _ _ hz rfl).alloc _).alloc _).alloc _,hw1▸((Bk.at_ _ _ _ (by simp [hz]) rfl).alloc _).alloc _,hw1▸(Bk.at_ _ _ _ (by simp [hz]) rfl).alloc _,hw1▸Bk.at_ _ _ _ (by simp [hz]) rfl⟩;have HW:=aa hw1;have HZ:=aa hz;have HRO:=aa hR;have HBO:=aa hbf;have HFO:=aa haf;have HDO:=aa hD;have HAF:=aa HA;clear hb hw1 hz hR hbf haf hD HA;go_enter Tryz.func15,Tryz.ntmps15;go_upto_region 1 with fail
 rw [HW.out,HZ.out];go_wp2_with (first | (with_reducible refine ao rfl 45 _ rfl z rfl (dl R) 45 HA1.out.rt _ Tryz.underlying45 rfl (aq _ HRO.out) ?_) | (with_reducible refine ao rfl 45 _ rfl (z+1) rfl (dl bf) 45 HA1.out.bf _ Tryz.underlying45 rfl (aq _ HBO.out) ?_) | (with_reducible refine ao rfl 55 _ rfl (z+3) rfl (bC s t) 55 HA1.out.stp _ Tryz.underlying55 rfl (bv s t) ?_))
 refine (HAF.out w1 HA1.hb).mono ?_;rintro e w2 ⟨rfl,hbn⟩;have HA2:=aa (HA1.later hbn);clear hbn HA1 HAF;go_wp2_with (with_reducible refine ah 45 _ _ rfl ?_)
 refine ak.go ?_;obtain ⟨g3,hg3⟩:∃g,w2.heap.size=g:=⟨_,rfl⟩;have hbn:Below w2.heap.size w2 (w2.alloc (.cells #[.int .u8 0,.int .u8 0,.int .u8 0,.int .u8 0,.int .u8 0,.int .u8 0,.int .u8 0,.int .u8 0] 45)):=ai w2 _;have kt:Bk (w2.alloc (.cells #[.int .u8 0,.int .u8 0,.int .u8 0,.int .u8 0,.int .u8 0,.int .u8 0,.int .u8 0,.int .u8 0] 45)) g3 45 ([] ++ (dl ap ++ [])):=by rw [←hg3];exact Bk.new' w2 _ #[.int .u8 0,.int .u8 0,.int .u8 0,.int .u8 0,.int .u8 0,.int .u8 0,.int .u8 0,.int .u8 0] rfl
 rw [hg3];refine ae rfl 45 _ _ rfl g3 0 (.agg (dl D).toArray) (dl D) rfl rfl rfl 45 [] (dl ap) [] kt rfl (by rw [bT,bT,HDO.len];rfl) (aq _ HDO.out) (bN _) ?_;intro w3 hp;have hbn:Below w2.heap.size w2 w3:=hbn.grown hp.only hbn.size (fun q hq=>by injection hq with hq;omega);have HD3:Hid (Bk w3 g3 45 (dl D)):=by show Bk _ _ _ _;have:=hp.bk;simpa using this
 clear hp kt hg3;have HA3:=aa (HA2.later hbn);clear hbn HA2;go_wp2_with fail
 go_ret;exact ⟨rfl,HA3.hb⟩
end Go.Proofs.YtllbdpdnpaocnaaGreatDoor
