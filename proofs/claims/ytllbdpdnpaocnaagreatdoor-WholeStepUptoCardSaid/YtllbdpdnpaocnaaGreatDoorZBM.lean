/- Part of the proof of WholeStep. -/
import Derived.Test.YtllbdpdnpaocnaaGreatDoorZBL
namespace Go.Proofs.YtllbdpdnpaocnaaGreatDoor
set_option linter.unusedSimpArgs false
set_option linter.unusedVariables false
set_option linter.constructorNameAsVariable false
open Go.RowKit Go.Maps
structure gp (w:World) (B:Nat) (A:Option Addr) (N:Nat) (ws:List WdT):Prop where
 sl:Sl w B 3 A N (ws.flatMap wdC)
 pth:∀x∈ws,Sl w B 8 x.A x.N (aJ x.p)∧cY x.p
structure gq (w:World) (B:Nat) (t:eH):Prop where
 p:Sl w B 8 t.AP t.NP (aJ t.p)
 pk:cY t.p
 r:gp w B t.AR t.NR t.rs
 w:gp w B t.AW t.NW t.ws
section
variable {w w' : World} {B B' N:Nat} {A:Option Addr} {ws:List WdT} {t:eH}
theorem gp.below (h:gp w B A N ws) (hb:Below B w w'):gp w' B A N ws:=⟨h.sl.below hb,fun x hx=>⟨(h.pth x hx).1.below hb,(h.pth x hx).2⟩⟩
theorem gp.more (h:gp w B A N ws) (hB:B≤B'):gp w B' A N ws:=⟨h.sl.more hB,fun x hx=>⟨(h.pth x hx).1.more hB,(h.pth x hx).2⟩⟩
theorem gq.below (h:gq w B t) (hb:Below B w w'):gq w' B t:=⟨h.p.below hb,h.pk,h.r.below hb,h.w.below hb⟩
theorem gq.more (h:gq w B t) (hB:B≤B'):gq w B' t:=⟨h.p.more hB,h.pk,h.r.more hB,h.w.more hB⟩
theorem gq.later (h:gq w w.heap.size t) (hb:Below w.heap.size w w'):gq w' w'.heap.size t:=(h.below hb).more hb.size
theorem yS (ws:List WdT):(ws.flatMap wdC).length=ws.length*3:=by
 induction ws with
 | nil=>rfl
 | cons x ws ih=>rw [List.flatMap_cons,List.length_append,ih,List.length_cons];simp [wdC];omega
theorem gp.len (h:gp w B A N ws):ws.length=N:=by have:=h.sl.len;rw [yS] at this;omega
theorem gp.spot (h:gp w B A N ws) {k:Nat} (hk:k < N):∃b o x,A=some ⟨b,o,none⟩∧b < B∧ws[k]?=some x∧w.rangeAt b (o+k*3) (wdC x)∧Sl w B 8 x.A x.N (aJ x.p)∧cY x.p:=by obtain ⟨b,o,x,hA,hb,hi,hc⟩:=Sl.cellO (f:=wdC) (m:=3) (fun _=>rfl) (by omega) h.sl hk h.len;exact ⟨b,o,x,hA,hb,hi,hc,h.pth x (List.mem_of_getElem? hi)⟩
end
theorem cH.rd {w:World} {base N C:Nat} {A:Option Addr} {ws:List WdT} (h:cH w base (.slice A N C) ws):gp w w.heap.size A N ws:=by
 have h1:=h.own;obtain ⟨A',C',e⟩:=aI h1;injection e with e1 e2 e3
 subst e1 e2 e3;exact ⟨Sl.of_own h1,fun x hx=>⟨Sl.of_own (h.pth x hx).1,(h.pth x hx).2⟩⟩
theorem ib.rd {w:World} {base:Nat} {t:eH} (h:ib w base t):gq w w.heap.size t:=⟨Sl.of_own h.p,h.pk,h.r.rd,h.w.rd⟩
theorem oU {w:World} {B n:Nat} {A:Option Addr} {ls:List (List Int)} (h:Sl w B 8 A n (aJ ls)) (ho:cY ls):ls.length=n:=by have:=h.len;rw [eW ho] at this;omega
set_option maxRecDepth 20000 in
theorem kW (w:World) (s:MsT) (t:eH) (ok:eF s):Calls Tryz.prog 40 #[.agg (bC s t).toArray] w fun e w'=>e=.returned (.bool true)∧Below w.heap.size w w':=by
 obtain ⟨z,hz⟩:∃z,w.heap.size=z:=⟨_,rfl⟩;obtain ⟨w1,hw1⟩:∃w1,w.alloc (.cells (bC s t).toArray 55)=w1:=⟨_,rfl⟩;have hk:Bk w1 z 55 (bC s t):=hw1▸Bk.at_ w _ _ hz rfl;have hb:Below w.heap.size w w1:=hw1▸ai w _;have c0:w1.cell? ⟨z,0,none⟩=some (.int .i64 s.pc):=hk.cell 0;have c1:w1.cell? ⟨z,1,none⟩=some (.int .i64 s.halt):=hk.cell 1;have c2:w1.cell? ⟨z,2,none⟩=some (.int .i64 s.mem.length):=hk.cell 2;have HW:=aa hw1;have HB:=aa hb;have HZ:=aa hz;obtain ⟨⟨h1,h2⟩,⟨h3,h4⟩,⟨h5,h6⟩,_⟩:=ok;obtain ⟨n,hn⟩:∃n,s.mem.length=n:=⟨_,rfl⟩;rw [hn] at h1 h2 c2;obtain ⟨pc,hpc⟩:∃x,s.pc=x:=⟨_,rfl⟩;obtain ⟨ha,hha⟩:∃x,s.halt=x:=⟨_,rfl⟩;rw [hpc] at h3 h4 c0;rw [hha] at h5 h6 c1;have h1' : (1:Int)≤n:=by omega
 have h2' : (n:Int)≤256:=by omega
 clear hk hw1 hz hb hn hpc hha;go_enter Tryz.func40,Tryz.ntmps40;go_upto_region 1 with fail
 rw [HW.out,HZ.out];go_wp2_with fail
 go_ret;exact ⟨rfl,HB.out⟩
theorem fF {w:World} {g:Nat} {s:MsT} {t:eH} (h:Bk w g 55 (bC s t)):w.cell? ⟨g,15,none⟩=some (.slice t.AP t.NP t.CP)∧w.cell? ⟨g,16,none⟩=some (.slice t.AR t.NR t.CR)∧w.cell? ⟨g,17,none⟩=some (.slice t.AW t.NW t.CW):=by have hm:=bS s;obtain ⟨x0,x1,x2,x3,x4,x5,x6,x7,e⟩:=dQ _ hm.len;unfold bC at h;rw [e] at h;exact ⟨h.cell 15,h.cell 16,h.cell 17⟩
theorem mC {w:World} {g:Nat} {s:MsT} {t:eH} (h:Bk w g 55 (bC s t)):w.rangeAt g 3 (dl (dP s)):=Bk.range (pre:=[.int .i64 s.pc,.int .i64 s.halt,.int .i64 s.mem.length]) (post:=ay t.i ++ [.slice t.AP t.NP t.CP,.slice t.AR t.NR t.CR,.slice t.AW t.NW t.CW]) h rfl
theorem oV {w:World} {g:Nat} {s:MsT} {t:eH} (h:Bk w g 55 (bC s t)):w.rangeAt g 11 (ay t.i):=by unfold bC at h;rw [xx] at h;exact Bk.range h (by simp [bT,(bS s).len])
set_option maxRecDepth 20000 in
theorem qB (w:World) (s:MsT) (t:eH) (h1:t.NR=0) (h2:t.NW=0):Calls Tryz.prog 41 #[.agg (bC s t).toArray] w fun e w'=>e=.returned (.bool true)∧Below w.heap.size w w':=by
 obtain ⟨z,hz⟩:∃z,w.heap.size=z:=⟨_,rfl⟩;obtain ⟨w1,hw1⟩:∃w1,w.alloc (.cells (bC s t).toArray 55)=w1:=⟨_,rfl⟩;have hk:Bk w1 z 55 (bC s t):=hw1▸Bk.at_ w _ _ hz rfl;have hb:Below w.heap.size w w1:=hw1▸ai w _;obtain ⟨_,c6,c7⟩:=fF hk;rw [h1] at c6;rw [h2] at c7;have HW:=aa hw1;have HB:=aa hb;have HZ:=aa hz;clear hk hw1 hz hb h1 h2;go_enter Tryz.func41,Tryz.ntmps41;go_upto_region 1 with fail
 rw [HW.out,HZ.out];go_wp2_with fail
 go_ret;exact ⟨rfl,HB.out⟩
set_option maxRecDepth 20000 in
theorem nK (w:World) (s:MsT) (t:eH) (h0:s.halt=0):Calls Tryz.prog 42 #[.agg (bC s t).toArray] w fun e w'=>e=.returned (.agg (dl (hdD s.pc 2 s.mem.length (dP s))).toArray)∧Below w.heap.size w w':=by
 obtain ⟨z,hz⟩:∃z,w.heap.size=z:=⟨_,rfl⟩;obtain ⟨w1,hw1⟩:∃w1,(w.alloc (.cells (bC s t).toArray 55)).alloc (.cells #[.int .u8 0,.int .u8 0,.int .u8 0,.int .u8 0,.int .u8 0,.int .u8 0,.int .u8 0,.int .u8 0] 45)=w1:=⟨_,rfl⟩;have hk:Bk w1 z 55 (bC s t):=hw1▸(Bk.at_ w _ _ hz rfl).alloc _;have hr:Bk w1 (z+1) 45 (dl ap):=hw1▸Bk.at_ _ _ _ (by simp [hz]) rfl;have hb:Below w.heap.size w w1:=hw1▸(ai w _).alloc (by simp) _;have c0:w1.cell? ⟨z,0,none⟩=some (.int .i64 s.pc):=hk.cell 0;have c1:w1.cell? ⟨z,1,none⟩=some (.int .i64 0):=by rw [←h0];exact hk.cell 1
 have c2:w1.cell? ⟨z,2,none⟩=some (.int .i64 s.mem.length):=hk.cell 2;have HRM:=aa (mC hk);have HMO:=aa (bS s);obtain ⟨D,hD⟩:∃D,hdD s.pc 2 s.mem.length (dP s)=D:=⟨_,rfl⟩;have HHD:=aa (gH w1 s.pc 2 s.mem.length (dP s) (bS s));have HDO:Hid (aO D):=by show aO D;rw [←hD];exact sm _ _ _ _
 rw [hD] at HHD ⊢;have HW:=aa hw1;have HB:=aa hb;have HZ:=aa hz;have HR:=aa hr;clear hk hr hw1 hz hb hD h0;go_enter Tryz.func42,Tryz.ntmps42;go_upto_region 1 with fail
 rw [HW.out,HZ.out];go_wp2_with (with_reducible refine wpList_load_mid rfl 45 _ rfl z 3 rfl (dl (dP s)) _ HRM.out Tryz.underlying45 rfl (aq _ HMO.out) ?_)
 refine HHD.mono ?_;rintro e w2 ⟨rfl,hbn⟩;have HB2:=aa (ab HB.out hbn);have HR2:=aa (HR.later hbn);clear hbn HHD;go_wp2_with (with_reducible refine ah 45 _ _ rfl ?_)
 refine ak.go ?_;refine ae rfl 45 _ _ rfl (z+1) 0 (.agg (dl D).toArray) (dl D) rfl rfl rfl 45 [] (dl ap) [] (by simpa using HR2.out) rfl (dY HDO.out) (aq _ HDO.out) (bN _) ?_;intro w4 hp;have HR4:Hid (Bk w4 (z+1) 45 (dl D)):=by show Bk _ _ _ _;have:=hp.bk;simpa using this
 have HB4:=aa (ag HB2.out hp.only HB2.size (by have:=HZ.out;omega));clear hp;go_wp2_with fail
 refine bodyPost_ret (bH rfl _ _ (z+1) 45 (dl D) _ rfl HR4.out Tryz.underlying45 rfl (aq _ HDO.out)) rfl ?_;exact ⟨rfl,HB4.out⟩
set_option maxRecDepth 20000 in
theorem mD (w:World) (A A' : Option Addr) (n c c' : Nat) (xs:List Int) (h:Sl w w.heap.size 1 A n (xs.map (.int .i64))) (h' : Sl w w.heap.size 1 A' n (xs.map (.int .i64))) (hn:n≤10):Calls Tryz.prog 99 #[.slice A n c,.slice A' n c'] w fun e w'=>e=.returned (.bool true)∧Below w.heap.size w w':=by
 have HS:=aa h;have HS':=aa h';clear h h';go_enter Tryz.func99,Tryz.ntmps99;go_wp2_with fail
 go_loopw [5,13] (fun _ is wr=>∃(i:Nat),i≤n∧is=.int .i64 i∧Hid (Below w.heap.size w wr)) (fun _ is _=>n - (intOf is).toNat)
 case atStart=>exact ⟨0,Nat.zero_le _,rfl,Below.refl _ _⟩
 case round=>
  obtain ⟨i,hi,rfl,HB⟩:=hrel;by_cases hlt:i < n
  ·have hi1:(i:Int) < n:=by omega
   have hbd:Below wr.heap.size wr wr.drew:=ac wr wr.heap.size 1;have HBd:=aa (ab HB.out hbd);obtain ⟨ad,x,rfl,_,hx,hc⟩:=(HS.below HBd.out).at_ hlt;obtain ⟨ad',x',rfl,_,hx',hc'⟩:=(HS'.below HBd.out).at_ hlt;rw [hx] at hx';injection hx' with hx'
   subst hx';have HC:=aa hc;have HC':=aa hc';clear hx hc hc' hbd;go_upto_region 6 with fail
   refine wp_region_held_drew (S:=fun w'=>w'.cell? (ad.add i)=some (.int .i64 x)∧w'.cell? (ad'.add i)=some (.int .i64 x)) (by kernel_rfl) ⟨HC.out,HC'.out⟩ (fun hHeld=>?_);refine tk 0 ?_;refine tk 1 ?_;refine tk 4 ?_;refine tk 5 ?_;refine tk 2 ?_;refine tk 6 ?_;refine tkv 3 rfl (fun w hSw=>by have hcell:=hSw.1;clear hSw;go_simp;try with_reducible rfl) ?_;refine tkv 7 rfl (fun w hSw=>by have hcell:=hSw.2;clear hSw;go_simp;try with_reducible rfl) ?_;refine tk 8 ?_;refine wpAnyH_done (by kernel_rfl) ?_ _;clear hHeld;go_wp2_with fail
   go_roundw
   case rel=>exact ⟨i+1,hlt,by go_num,HBd⟩
   case measure=>simp [intOf] <;> omega
  ·have hi1:¬((i:Int) < n):=by omega
   obtain rfl:i=n:=by omega
   go_wp2_with fail
   go_ret;exact ⟨rfl,HB.out⟩
set_option maxRecDepth 20000 in
theorem mE (w:World) (A:Option Addr) (N C:Nat) (ws:List WdT) (h:gp w w.heap.size A N ws) (hN:N≤10):Calls Tryz.prog 98 #[.slice A N C] w fun e w'=>(∃v,e=.returned v∧w'.ownsRow w.heap.size 3 1 v N ((ws.map (·.a)).map (.int .i64)))∧Below w.heap.size w w':=by
 have HS:=aa h;have HLN:=aa h.len;clear h;go_enter Tryz.func98,Tryz.ntmps98;go_wp2_with fail
 go_loopw [3,5,8] (fun v _ j wr=>∃(k:Nat),k≤N∧j=.int .i64 k∧Hid (wr.ownsRow w.heap.size 3 1 v k (((ws.take k).map (·.a)).map (.int .i64)))∧Hid (Below w.heap.size w wr)) (fun _ _ j _=>N - (intOf j).toNat)
 case atStart=>exact ⟨0,Nat.zero_le _,rfl,World.ownsRow_nil _ _ _ _,Below.refl _ _⟩
 case round=>
  obtain ⟨k,hk,rfl,HO,HB⟩:=hrel;by_cases hlt:k < N
  ·have hkn:(k:Int) < N:=by omega
   obtain ⟨b,o,x,hA,hbl,hx,hr,_,_⟩:=(HS.below HB.out).spot hlt;have HR:=aa hr;have HX:=aa hx;subst hA;clear hr hx hbl;go_wp2_with (first | (with_reducible refine wpList_load_mid rfl 101 _ rfl b (o+k*3) rfl (wdC x) _ HR.out Tryz.underlying101 rfl (fg x) ?_) | (with_reducible refine ah 101 _ _ rfl ?_))
   refine ak.go ?_;obtain ⟨g,hg⟩:∃q,wr.heap.size=q:=⟨_,rfl⟩;rw [hg];refine an 101 _ _ rfl g hg (wdC x) rfl rfl rfl rfl (fg x) (mA x) ?_;intro w4 hk4 hbn;have c0:w4.cell? ⟨g,0,none⟩=some (.int .i64 x.a):=hk4.cell 0;have HO4:=aa (az HO.out hbn);have HB4:=aa (ab HB.out hbn);clear hk4 hbn hg;go_wp2_with (with_reducible refine a8 22 _ _ rfl ?_)
   refine ak.go ?_;refine ar (by rfl) 22 1 _ rfl #[(0,.int .i64 x.a)] (by simp [Act.eval,Act.put]) 3 [.int .i64 x.a] (fun w=>jF _ w) ?_;intro q9 w9 hq9 hb9 hbn;have HN9:=aa hb9;have HO9:=aa (az HO4.out hbn);have HB9:=aa (ab HB4.out hbn);clear hq9 hb9 hbn c0;obtain ⟨i0,hj,hj0,hj1,hj2⟩:=info_parts Tryz.infoI64;have hbw:w.heap.size≤w9.heap.size:=HB9.size;go_wp2_with (at_builtin;refine bm _ rfl (.tmp 12) (.tmp 15) 22 rfl w.heap.size 3 i0 _ _ _ Tryz.underlying22 hj hj0 hj1 hj2 rfl (by decide) _ _ _ rfl HO9.out _ _ _ _ _ rfl (HN9.sl (n:=1) rfl (by omega) (fun _ _ h=>h)) (by intro u hu;simp at hu;subst hu;rfl) (by unfold maxLen;omega) (by omega) hbw ?_;intro v10 w10 hown hg hat;refine bA ?_)
   refine ak.go ?_;have HO10:Hid (w10.ownsRow w.heap.size 3 1 v10 (k+1) (((ws.take (k+1)).map (·.a)).map (.int .i64))):=by show World.ownsRow _ _ _ _ _ _ _;rw [cF HX.out,List.map_append,List.map_append];exact hown
   have HB10:=aa (aB HB9.out HO9.out hg (Nat.le_refl _) hbw);clear hown hg hat hj hj0 hj1 hj2 i0 hbw;go_wp2_with fail
   go_roundw
   case rel=>exact ⟨k+1,hlt,by go_num,HO10.out,HB10.out⟩
   case measure=>simp [intOf];omega
  ·have hi1:¬((k:Int) < N):=by omega
   obtain rfl:k=N:=by omega
   go_wp2_with fail
   go_ret;have e1:=HO.out;rw [List.take_of_length_le (by rw [HLN.out];exact Nat.le_refl _),List.map_map] at e1;exact ⟨⟨_,rfl,e1⟩,HB.out⟩
structure sn (m:List Int) (x:WdT):Prop where
 a:0≤x.a∧x.a < m.length
 v:x.v=br m x.a
 p:x.p=dD (eG m) x.a
theorem qC (m:List Int):(eG m).length=m.length:=by simp [eG]
theorem sn.facts {m:List Int} {x:WdT} (h:sn m x) (h1:1≤m.length∧m.length≤256) (hl:x.p.length=x.N):dn m.length=x.N∧jv (dU (eG m)) x.a (wlD x.v) x.p=true:=by
 obtain ⟨a0,a1⟩:=h.a;obtain ⟨j,hj⟩:∃j:Nat,x.a=j:=⟨x.a.toNat,by omega⟩;have hj1:j < m.length:=by omega
 have hp:=h.p;have hv:=h.v;rw [hj] at hp hv;rw [hj];have hL:=qC m;refine ⟨?_,?_⟩
 ·rw [dn,if_neg (by omega),←hl,hp,j1 (by omega) (by omega),fI,hL]
 ·rw [hp,hv];refine pw ?_ (by omega);have:br m (j:Int)=m[j]:=by unfold br;simp [List.getD_eq_getElem?_getD,hj1]
  rw [this,eG,List.getElem?_map,List.getElem?_eq_getElem hj1];rfl
set_option maxRecDepth 20000 in
theorem kX (w:World) (z:Nat) (s:MsT) (t:eH) (x:WdT) (hk:Bk w z 55 (bC s t)) (ok:eF s) (hx:sn s.mem x) (hs:Sl w w.heap.size 8 x.A x.N (aJ x.p)) (ho:cY x.p):Calls Tryz.prog 96 #[.agg (wdC x).toArray,.pointer (some ⟨z,0,none⟩)] w fun e w'=>e=.returned (.bool true)∧Below w.heap.size w w':=by
 obtain ⟨g,hg⟩:∃g,w.heap.size=g:=⟨_,rfl⟩;obtain ⟨w1,hw1⟩:∃w1,w.alloc (.cells (wdC x).toArray 101)=w1:=⟨_,rfl⟩;have hx1:Bk w1 g 101 (wdC x):=hw1▸Bk.at_ w _ _ hg rfl;have hb:Below w.heap.size w w1:=hw1▸ai w _;have HW:=aa hw1;have HB:=aa hb;have HG:=aa hg;have HX1:=aa hx1;have HK:=aa (hk.later hb);have HS:=aa (hs.later hb);obtain ⟨f1,f2⟩:=hx.facts ok.len (oU hs ho);have HH:Hid (∀wk,Calls Tryz.prog 43 #[.int .i64 s.mem.length] wk fun e w'=>e=.returned (.int .i64 x.N)∧wk=w'):=fun wk=>by have:=gg s.mem.length wk;rw [f1] at this;exact this
 have HCK:Hid (∀wk,Below w1.heap.size w1 wk→Calls Tryz.prog 44 #[.agg (dl (dP s)).toArray,.int .i64 x.a,.agg (dl (wlD x.v)).toArray,.slice x.A x.N x.C] wk fun e w'=>e=.returned (.bool true)∧Below wk.heap.size wk w'):=fun wk hbk=>by have:=mZ wk (dP s) x.a (wlD x.v) (bS s) (mw _) x.A x.N x.C x.p ho (HS.later hbk);rw [dP,f2] at this;exact this
 have HSZ:=aa (aq _ (bS s));clear hx1 hw1 hb hg hk hs ho hx ok f1 f2;go_enter Tryz.func96,Tryz.ntmps96;go_upto_region 1 with fail
 rw [HW.out,HG.out];refine wp_region_held_drew (S:=fun wk=>Bk wk g 101 (wdC x)∧Bk wk z 55 (bC s t)) (by kernel_rfl) ⟨HX1.later (ac w1 _ 1),HK.later (ac w1 _ 1)⟩ (fun hHeld=>?_);obtain ⟨w5,hw5⟩:∃wa,w1.drew=wa:=⟨_,rfl⟩;have hb5:Below w1.heap.size w1 w5:=hw5▸ac w1 w1.heap.size 1;rw [hw5] at hHeld ⊢;have HB5:=aa (ab HB.out hb5);have HX5:=aa (HX1.later hb5);have HK5:=aa (HK.later hb5);have HBB:=aa hb5;clear hw5 hb5;refine tk 0 ?_;refine tk 3 ?_;refine tkv 1 rfl (fun w hSw=>by have hcell:=(show w.cell? ⟨g,2,none⟩=some (.slice x.A x.N x.C) from hSw.1.cell 2);clear hSw;go_simp;try with_reducible rfl) ?_;refine tkv 4 rfl (fun w hSw=>by have hcell:=(show w.cell? ⟨z,2,none⟩=some (.int .i64 s.mem.length) from hSw.2.cell 2);clear hSw;go_simp;try with_reducible rfl) ?_;refine tk 2 ?_;refine rd1 5 (fun K hK=>?_);go_simp
 (refine (HH.out w5).mono ?_;rintro e w6 ⟨rfl,rfl⟩)
 refine so hK (⟨HX5.out,HK5.out⟩) (fun hHeld=>?_);clear hK K;refine tk 6 ?_;refine tk 7 ?_;refine tk 8 ?_;refine tk 10 ?_;refine tk 12 ?_;refine tk 15 ?_;refine tkR 9 (dl (dP s)) (fun w hSw=>(mC hSw.2)) Tryz.underlying45 (HSZ.out) ?_;refine tkv 11 rfl (fun w hSw=>by have hcell:=(show w.cell? ⟨g,0,none⟩=some (.int .i64 x.a) from hSw.1.cell 0);clear hSw;go_simp;try with_reducible rfl) ?_;refine tkv 13 rfl (fun w hSw=>by have hcell:=(show w.cell? ⟨g,1,none⟩=some (.int .i32 x.v) from hSw.1.cell 1);clear hSw;go_simp;try with_reducible rfl) ?_;refine tkv 16 rfl (fun w hSw=>by have hcell:=(show w.cell? ⟨g,2,none⟩=some (.slice x.A x.N x.C) from hSw.1.cell 2);clear hSw;go_simp;try with_reducible rfl) ?_;refine rd1 14 (fun K hK=>?_);go_simp
 (refine (hY w5 x.v).mono ?_;rintro e w6 ⟨rfl,hbn⟩;have HX6:=aa (HX5.later hbn);have HK6:=aa (HK5.later hbn);have HB6:=aa (ab HB5.out hbn);have HBB6:=aa (ab HBB.out hbn);clear hbn)
 refine so hK (⟨HX6.out,HK6.out⟩) (fun hHeld=>?_);clear hK K;refine rd1 17 (fun K hK=>?_);go_simp
 (refine (HCK.out w6 HBB6.out).mono ?_;rintro e w7 ⟨rfl,hbn⟩;have HX7:=aa (HX6.later hbn);have HK7:=aa (HK6.later hbn);have HB7:=aa (ab HB6.out hbn);clear hbn)
 refine so hK (⟨HX7.out,HK7.out⟩) (fun hHeld=>?_);clear hK K;refine tk 18 ?_;refine tk 19 ?_;refine wpAnyH_done rfl ?_ _;go_wp2_with fail
 go_ret;exact ⟨rfl,HB7.out⟩
theorem xy {P:Program} {o:Oper} {a:Act} {w:World} {K:Act→World→Prop} {Q:Exit→Act→World→Prop} (t:TypeId) (n c:Operand) (ho:o.op=.makeSlice t n c) (N C V:Value) (hn:a.eval n=N) (hc:a.eval c=C) (w' : World) (hb:(Instr.makeSlice t N C).run P w=.ok V w') (h:K (a.put o.dst V) w'):o.wp P a w K Q:=by unfold Oper.wp;simp [execOp,ho,hn,hc,hb,Result.andThen];exact h
theorem mF (pc halt:Int) (A:Option Addr) (N C:Nat) (w:World):(Instr.build 38 #[(0,.int .i64 pc),(1,.slice A N C),(2,.int .i64 halt)]).run Tryz.prog w=.ok (.agg (aF pc (.slice A N C) halt).toArray) w:=by kernel_rfl
theorem uH (N:Nat):(List.replicate N dZ).flatMap ay=List.replicate (N*4) (.int .i64 0):=by
 induction N with
 | zero=>rfl
 | succ N ih=>rw [List.replicate_succ,List.flatMap_cons,ih,Nat.succ_mul,Nat.add_comm (N*4) 4,←List.replicate_append_replicate];rfl
theorem xz (N:Nat):madeCells #[Value.int .i64 0,.int .i64 0,.int .i64 0,.int .i64 0] (N*4)=((List.replicate N dZ).flatMap ay).toArray:=by
 rw [uH,←Array.toArray_toList (xs:=madeCells _ _)];congr 1;apply List.ext_getElem?;intro j;by_cases hj:j < N*4
 ·have:j % 4=0∨j % 4=1∨j % 4=2∨j % 4=3:=by omega
  rcases this with h | h | h | h <;> simp [madeCells,hj,h]
 ·simp [madeCells,hj]
theorem uI (N:Nat) (hN:N≤5000) (W:World):(Instr.makeSlice 42 (.int .i64 (N:Int)) (.int .i64 (N:Int))).run Tryz.prog W=.ok (.slice (some ⟨W.heap.size,0,none⟩) N N) (W.alloc (.cells ((List.replicate N dZ).flatMap ay).toArray 51)):=by obtain ⟨d0,hdi,hd0,hd1,hd2⟩:=info_parts Tryz.infoIns;have:=run_make (P:=Tryz.prog) W 42 51 d0 _ Tryz.underlying42 hdi hd0 .i64 .i64 N N (by omega) (Int.le_refl _) (by rw [hd2];omega) (by omega);rw [hd1,Int.toNat_natCast] at this;rw [←xz];exact this
structure DnS (w wk:World) (z g8 q:Nat) (s:MsT) (t:eH) (m:List Int):Prop where
 hb:Below w.heap.size w wk
 stp:Bk wk z 55 (bC s t)
 rb:Bk wk (z+1) 45 (dl ap)
 st:Bk wk g8 38 (aF s.pc (.slice (some ⟨q,0,none⟩) s.mem.length s.mem.length) s.halt)
 row:Bk wk q 21 (m.map (.int .i32))
 len:m.length=s.mem.length
 lo:w.heap.size≤q
section
variable {w wk wk' : World} {z g8 q:Nat} {s:MsT} {t:eH} {m m' : List Int}
theorem DnS.later (h:DnS w wk z g8 q s t m) (hb:Below wk.heap.size wk wk'):DnS w wk' z g8 q s t m:=⟨ab h.hb hb,h.stp.later hb,h.rb.later hb,h.st.later hb,h.row.later hb,h.len,h.lo⟩
theorem DnS.put (h:DnS w wk z g8 q s t m) (hr:Bk wk' q 21 (m'.map (.int .i32))) (hl:m'.length=m.length) (hg:wk.grownBy wk' (some q)):DnS w wk' z g8 q s t m':=
 ⟨ag h.hb hg h.hb.size h.lo,h.stp.grown hg (fun e=>by injection e with e;exact h.row.ne_ h.stp (by decide) e.symm),h.rb.grown hg (fun e=>by injection e with e;exact h.row.ne_ h.rb (by decide) e.symm),h.st.grown hg (fun e=>by injection e with e;exact h.row.ne_ h.st (by decide) e.symm),hr,hl.trans h.len,h.lo⟩
theorem DnS.only (h:DnS w wk z g8 q s t m) {g:Nat} (hg:wk.grownBy wk' (some g)) (h0:w.heap.size≤g) (h1:g≠z) (h2:g≠z+1) (h3:g≠g8) (h4:g≠q):DnS w wk' z g8 q s t m:=
 ⟨ag h.hb hg h.hb.size h0,h.stp.grown hg (fun e=>by injection e with e;exact h1 e.symm),h.rb.grown hg (fun e=>by injection e with e;exact h2 e.symm),h.st.grown hg (fun e=>by injection e with e;exact h3 e.symm),h.row.grown hg (fun e=>by injection e with e;exact h4 e.symm),h.len,h.lo⟩
end
theorem xA {m rs:List Int} {ws:List WdT} (h:ws.map tri=rs.map (oS m)) (hr:∀r∈rs,0≤r∧r < m.length):ws.map (·.a)=rs∧∀x∈ws,sn m x:=by
 induction ws generalizing rs with
 | nil=>
  cases rs with
  | nil=>exact ⟨rfl,fun x hx=>by cases hx⟩
  | cons r rs=>cases h
 | cons x ws ih=>
  cases rs with
  | nil=>cases h
  | cons r rs=>
   rw [List.map_cons,List.map_cons] at h;injection h with h1 h2
   obtain ⟨e,f⟩:=ih h2 (fun y hy=>hr y (List.mem_cons_of_mem _ hy));have e1:x.a=r:=congrArg (·.1) h1;have e2:x.v=br m r:=congrArg (fun y=>y.2.1) h1;have e3:x.p=dD (eG m) r:=congrArg (fun y=>y.2.2) h1;refine ⟨by rw [List.map_cons,e,e1],fun y hy=>?_⟩;rcases List.mem_cons.1 hy with rfl | hy
   ·exact ⟨by rw [e1];exact hr r (List.mem_cons_self ..),by rw [e1];exact e2,by rw [e1];exact e3⟩
   ·exact f y hy
theorem iM (ls:List (List Int)) (i:Nat) (d:List Int):∀(l k:Nat),k≠i / 2 ^ l→cQ (ls.set i d) l k=cQ ls l k
 | 0,k,h=>by rw [fS,fS,List.getElem?_set_ne (by rw [Nat.pow_zero,Nat.div_one] at h;exact fun e=>h e.symm)]
 | l+1,k,h=>by
  have e:i / 2 ^ (l+1)=i / 2 ^ l / 2:=by rw [Nat.pow_succ,Nat.div_div_eq_div_mul]
  rw [e] at h;rw [fT,fT,iM ls i d l (2*k) (by omega),iM ls i d l (2*k+1) (by omega)]
theorem xB (m:List Int) (i v:Int):eG (cO m i v)=(eG m).set i.toNat (wlD v):=by unfold eG cO;rw [List.map_set]
theorem xC {m:List Int} (h1:1≤m.length∧m.length≤256) {x:WdT} (hx:sn m x) (v:Int):ep x.a (wlD v) x.p=dU (eG (cO m x.a v)):=by
 obtain ⟨a0,a1⟩:=hx.a;obtain ⟨j,hj⟩:∃j:Nat,x.a=j:=⟨x.a.toNat,by omega⟩;have hp:=hx.p;rw [hj] at hp ⊢;have hl:=qC m;rw [hp,xB,Int.toNat_natCast];have hi:j < (eG m).length:=by omega
 have h4:(eG m).length≤4096:=by omega
 have hpo:dD ((eG m).set j (wlD v)) j=dD (eG m) j:=by
  unfold dD gi;rw [List.length_set,Int.toNat_natCast];split
  ·exact List.map_congr_left fun l _=>iM _ j _ l _ (zA _)
  ·rfl
 rw [←hpo];exact pv (by rw [List.getElem?_set_self hi]) (by rw [List.length_set];exact h4)
def eS (N:Nat) (p:Int) (i:aX):List aX:=(List.replicate N dZ).set p.toNat i
theorem xD (N:Nat) (p:Int) (i:aX):(eS N p i).length=N:=by simp [eS]
theorem yT {N:Nat} {p:Int} {i:aX} (hi:eB i):∀x∈eS N p i,eB x:=by
 intro x hx;rcases List.mem_or_eq_of_mem_set hx with h | h
 ·rw [List.eq_of_mem_replicate h];unfold eB InR dZ;decide
 ·rw [h];exact hi
theorem xE (N:Nat) (p:Int) (i:aX):(eS N p i).map toI=(List.replicate N kI).set p.toNat (toI i):=by unfold eS;rw [List.map_set,List.map_replicate];rfl
theorem sq {N p:Nat} (hp:p < N) (i:aX):∃L1 L2:List aX,List.replicate N dZ=L1 ++ dZ :: L2∧eS N p i=L1 ++ i :: L2∧(L1.flatMap ay).length=p*4:=by
 refine ⟨List.replicate p dZ,List.replicate (N - p - 1) dZ,?_,?_,by rw [eC];simp⟩
 ·rw [←List.replicate_succ,List.replicate_append_replicate];congr 1;omega
 ·unfold eS;have:List.replicate N dZ=List.replicate p dZ ++ dZ :: List.replicate (N - p - 1) dZ:=by rw [←List.replicate_succ,List.replicate_append_replicate];congr 1;omega
  rw [this,Int.toNat_natCast,List.set_append_right _ _ (by simp)];simp
def gu (l:List InT) (s:MsT):MsT:=⟨s.pc,dV s.mem (zer s.mem.length) (aE l s).1,s.halt⟩
theorem sV {l:List InT} {s:MsT} (ok:eF s):eF (gu l s):=
 ⟨by show 1≤(dV _ _ _).length∧_;unfold gu;rw [iY];simp only [zer,List.length_replicate];exact ok.len,ok.pc,ok.halt,xX ok.mem (fun x hx=>by rw [List.eq_of_mem_replicate hx];unfold ij;omega)⟩
theorem mG (l:List InT) (s:MsT):(gu l s).mem.length=s.mem.length:=by unfold gu;rw [iY];simp [zer]
theorem xF {L:List aX} {s:MsT} {i:aX} (ok:eF s) (h0:s.halt=0) (hn:bV (L.map toI) s=some (toI i)):aE ((eS L.length s.pc i).map toI) (gu (L.map toI) s)=aE (L.map toI) s∧(be ((eS L.length s.pc i).map toI) (gu (L.map toI) s)).pc=(be (L.map toI) s).pc∧(be ((eS L.length s.pc i).map toI) (gu (L.map toI) s)).halt=(be (L.map toI) s).halt∧((aE (L.map toI) s).2 < 0→(be (L.map toI) s).mem=s.mem)∧(0≤(aE (L.map toI) s).2→(be (L.map toI) s).mem=cO s.mem (aE (L.map toI) s).2 (br (be ((eS L.length s.pc i).map toI) (gu (L.map toI) s)).mem (aE (L.map toI) s).2)):=by
 have h:=qZ ok h0 hn;have e:(⟨s.pc,dV s.mem (List.replicate s.mem.length 0) (aE (L.map toI) s).1,0⟩:MsT)=gu (L.map toI) s:=by unfold gu zer;rw [h0]
 rw [e,List.length_map] at h;rw [←xE] at h;obtain ⟨h1,h2,h3,h4⟩:=h;have hp:=vu h0 hn;refine ⟨h1,h2,h3,fun hw=>by rw [hp,if_pos hw],fun hw=>?_⟩;rw [hp,if_neg (by omega),h4 hw]
theorem qD (l:List InT) (s:MsT):(be l s).mem.length=s.mem.length:=by
 cases hn:bV l s with
 | none=>rw [iW hn]
 | some i=>
  rw [fD hn (bW hn)];simp only;split
  ·rfl
  ·unfold cO;rw [List.length_set]
end Go.Proofs.YtllbdpdnpaocnaaGreatDoor
