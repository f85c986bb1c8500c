/- Part of the proof of WholeStep. -/
import Derived.Test.YtllbdpdnpaocnaaGreatDoorZBO
import Derived.Test.YtllbdpdnpaocnaaGreatDoorZBP
import Derived.Test.YtllbdpdnpaocnaaGreatDoorRows
import Derived.ProofKit
import Derived.LaidMore
import Derived.OpenShut
import Derived.Stop.Joined
namespace Go.Proofs.YtllbdpdnpaocnaaGreatDoor
set_option linter.unusedSimpArgs false
set_option linter.unusedVariables false
set_option linter.constructorNameAsVariable false
open Go.RowKit Go.Maps
theorem sD {w:World} {q:Nat} {m:List Int} {zs:List Value} (h:Bk w q 21 (m.map (.int .i32) ++ zs)) (hm:m.length≤256):Sl w w.heap.size 1 (some ⟨q,0,none⟩) m.length (m.map (.int .i32)):=
 h.sl (n:=m.length) (by rw [List.length_map];omega) (by omega) (fun i v hv=>by rw [List.getElem?_append_left (List.getElem?_eq_some_iff.1 hv).1];exact hv)
structure LpS (w1 wk:World) (g12 g15 q C:Nat) (zs:List Value) (c:Sln) (L:List aX) (R:List Int) (s:MsT):Prop where
 b:Below w1.heap.size w1 wk
 st:Bk wk g12 38 (aF s.pc (.slice (some ⟨q,0,none⟩) s.mem.length C) s.halt)
 q:Bk wk q 21 (s.mem.map (.int .i32) ++ zs)
 o:wk.ownsRow w1.heap.size 51 4 (.slice c.A c.N c.C) c.N (L.flatMap ay)
 r:Bk wk g15 45 (dl R)
section
variable {w1 wk wk' : World} {g12 g15 q C:Nat} {zs:List Value} {c:Sln} {L:List aX} {R:List Int} {s:MsT}
theorem LpS.later (h:LpS w1 wk g12 g15 q C zs c L R s) (hb:Below wk.heap.size wk wk'):LpS w1 wk' g12 g15 q C zs c L R s:=⟨ab h.b hb,h.st.later hb,h.q.later hb,az h.o hb,h.r.later hb⟩
theorem LpS.row (h:LpS w1 wk g12 g15 q C zs c L R s) (ok:eF s):Sl wk wk.heap.size 1 (some ⟨q,0,none⟩) s.mem.length (s.mem.map (.int .i32)):=sD h.q ok.len.2
theorem LpS.put {q' C' : Nat} {zs' : List Value} {s' : MsT} (h:LpS w1 wk g12 g15 q C zs c L R s) (h1:w1.heap.size≤g12) (h2:g12 < g15) (h3:g12 < q') (hp:Put wk wk' g12 38 (aF s'.pc (.slice (some ⟨q',0,none⟩) s'.mem.length C') s'.halt)) (hq:Bk wk q' 21 (s'.mem.map (.int .i32) ++ zs')):LpS w1 wk' g12 g15 q' C' zs' c L R s':=
 ⟨ag h.b hp.only h.b.size h1,hp.bk,hq.grown hp.only (fun e=>by injection e with e;omega),bx h.o hp.only (aP h.o h.st (by decide)),h.r.grown hp.only (fun e=>by injection e with e;omega)⟩
end
set_option maxRecDepth 20000 in
set_option maxHeartbeats 4000000 in
theorem tB (w:World) (p:PgT) (h:cI w w.heap.size p) (hL:cX w) (h6:6≤w.heap.size) (a:Int) (A:Option Addr) (N C:Nat) (vs:List Int) (B:Option Addr) (M D:Nat) (ys:List Int) (hvs:Sl w w.heap.size 1 A N (vs.map (.int .i32))) (has:Sl w w.heap.size 1 B M (ys.map (.int .i32))) (h32:∀y∈ys,-2147483648≤y∧y≤2147483647) (v32:∀y∈vs,-2147483648≤y∧y≤2147483647):Calls Tryz.prog 3 #[.agg (pgC p).toArray,.int .i64 a,.agg #[.slice A N C,.slice B M D]] w fun e w'=>e=.returned (.bool true)∧Below w.heap.size w w':=by
 obtain ⟨z,hz⟩:∃z,w.heap.size=z:=⟨_,rfl⟩;obtain ⟨w0,hw0⟩:∃w1,w.alloc (.cells (pgC p).toArray 26)=w1:=⟨_,rfl⟩;have hzk0:Bk w0 z 26 (pgC p):=hw0▸Bk.at_ w _ _ hz rfl;have hb0:Below w.heap.size w w0:=hw0▸ai w _;have hz0:w0.heap.size=z+1:=by rw [←hw0,←hz];simp
 obtain ⟨w1,hw1⟩:∃w1,w0.alloc (.cells #[.slice A N C,.slice B M D] 28)=w1:=⟨_,rfl⟩;have hrk:Bk w1 (z+1) 28 [.slice A N C,.slice B M D]:=hw1▸Bk.at_ w0 _ _ hz0 rfl;have hbn:Below w0.heap.size w0 w1:=hw1▸ai w0 _;have hb:=ab hb0 hbn;have HW0:=aa hw0;have HW1:=aa hw1;have HZ:=aa hz;have HZ0:=aa hz0;have HB:=aa hb;have HZK:=aa (hzk0.later hbn);have HRK:=aa hrk;have HPG:=aa (h.later hb);have HVS:=aa (hvs.later hb);have HAS:=aa (has.later hb);have HLD:=aa (hL.below h6 hb);have H61:Hid (6≤w1.heap.size):=Nat.le_trans h6 hb.size;have H32:=aa h32;have HV32:=aa v32;clear hw0 hzk0 hb0 hz0 hw1 hrk hbn hb h hL hvs has h32 v32 hz h6;go_enter Tryz.func3,Tryz.ntmps3;go_upto_region 1 with fail
 try rw [HW0.out]
 try rw [HW1.out]
 try rw [HZ.out]
 try rw [HZ0.out]
 go_wp2_with (with_reducible refine aj rfl 26 _ rfl z rfl (pgC p) 26 HZK.out _ Tryz.underlying26 rfl (ct p) ?_)
 refine (tA w1 p HPG.out HLD.out).mono ?_;rintro e w2 ⟨⟨v,bo,rfl,hbd⟩,hbn⟩;have HB2:=aa hbn;have HBD:=aa hbd;clear hbn hbd;have HAW:=aa qU;cases bo with
 | false=>
  go_wp2_with (refine (HAW.out _).mono ?_;rintro e w3 ⟨rfl,hbn⟩)
  go_ret;exact ⟨rfl,ab HB.out (ab HB2.out hbn)⟩
 | true=>
  obtain ⟨p',wb,gc,c,fL,rfl,hcp,hfl,hFN,hPN,hgd,hlk,hpl⟩:=HBD.out rfl;have HCP:=aa hcp;have HFL:=aa hfl;have HFN:=aa hFN;have HPN:=aa hPN;have HGD:=aa hgd;have HLK:=aa hlk;have HPL:=aa hpl;clear hcp hfl hFN hPN hgd hlk hpl HBD;simp only [Bool.not_true];go_wp2_with ((with_reducible refine eU ?_ 26 _ rfl z rfl (pgC p) 26 (HZK.out.later HB2.out) _ Tryz.underlying26 rfl (ct p) ?_);rfl)
  refine (pO w2 p (HPG.later HB2.out)).mono ?_;rintro e w3 ⟨⟨b3,rfl⟩,hbn⟩;have HB3:=aa (ab HB2.out hbn);have HCP3:=aa (HCP.later hbn);clear hbn HCP;cases b3 with
  | false=>
   simp only [Bool.not_false];go_wp2_with (refine (HAW.out _).mono ?_;rintro e w4 ⟨rfl,hbn⟩)
   go_ret;exact ⟨rfl,ab HB.out (ab HB3.out hbn)⟩
  | true=>
   simp only [Bool.not_true];obtain ⟨ua,hua⟩:∃ua,IntKind.u64.wrap a=ua:=⟨_,rfl⟩;have hu0:0≤ua∧ua < 18446744073709551616:=by rw [←hua,IntKind.wrap_u64];omega
   have e5:ua.tmod 5=ua % 5:=Int.tmod_eq_emod_of_nonneg hu0.1;obtain ⟨k,hk4,hk⟩:∃k:Nat,k≤4∧wrap64 (ua.tmod 5)=k:=⟨(ua % 5).toNat,by omega,by rw [e5];unfold wrap64;omega⟩;clear hu0 e5;go_upto_region 5 with fail
   rw [hk];clear hua hk;have hg1:=HGD.out.1;have hg2:=HGD.out.2.1;have hmv:bI p.vrL=(fL.length:Int):=by rw [HFL.out,HLK.vr]
   have hm64:fL.length≤64:=by have h1:=HFL.out;have h2:=hg1.2;omega
   have hpa:p.paL=p'.paL:=HLK.pa.symm;have hpn:p.pa.N=p'.pa.N:=by rw [←HPG.lens.2,hpa];exact HPL.out
   have hft:=ya w3 p (HPG.later HB3.out) k fL.length hk4 hmv hm64 (by rw [hpa];exact hg2.1) (by rw [hpn];exact hg2.2) A N C vs B M D ys (HVS.later HB3.out) (HAS.later HB3.out) H32.out HV32.out;have HFT:=aa hft;have c0:w3.cell? ⟨z+1,0,none⟩=some (.slice A N C):=(HRK.later HB3.out).cell 0;have c1:w3.cell? ⟨z+1,1,none⟩=some (.slice B M D):=(HRK.later HB3.out).cell 1;have HPA:=aa hpa;have HPP:=aa hpn;have HG2:=aa hg2;clear hft hmv hpa hpn hg1 hg2;go_wp2_with (with_reducible refine aj rfl 26 _ rfl z rfl (pgC p) 26 (HZK.out.later HB3.out) _ Tryz.underlying26 rfl (ct p) ?_)
   refine HFT.mono ?_;rintro e w4 ⟨⟨A4,C4,us,B4,D4,as4,rfl,h1,h2,h3,h4,h5⟩,hbn⟩;obtain ⟨n1,hn1⟩:∃n1,(if k=0 then 0 else fL.length)=n1:=⟨_,rfl⟩;obtain ⟨M4,hM4⟩:∃M4,gC p.pa.N k=M4:=⟨_,rfl⟩;rw [hn1] at h1 ⊢;rw [hM4] at h2 ⊢;have HN1:=aa hn1;have HM4:=aa hM4;clear hn1 hM4;have HB4:=aa (ab HB3.out hbn);have HCP4:=aa (HCP3.later hbn);have HU4:=aa h1;have HA4:=aa h2;have HUR:=aa h3;have HAR:=aa h4;have HSP:=aa h5;clear hbn h1 h2 h3 h4 h5 c0 c1 HFT HCP3;go_wp2_with fail
   have hst:=rc w4 gc c k fL.length hk4 A4 n1 C4 us B4 M4 D4 as4 p'.paL fL HCP4.bk ⟨Sl.of_own HCP4.pa,fun v hv=>HPG.pa.ok v (by rw [HPA.out];exact hv)⟩ HU4.out HA4.out (Sl.of_own HCP4.fr) (by rw [HCP4.bh,←HFL.out]) hm64 HFN.out HN1.symm (by rw [HPN.out,←HPP.out];exact HM4.symm) (by rw [HPN.out];exact HG2.out.2)
    (by have:=HSP.out;rw [HPA.out] at this;exact this) HAR.out HUR.out HCP4.fk
   refine hst.mono ?_;rintro e w5 ⟨⟨s0,q5,C5,zs5,rfl,hq0,hqb,hok,hh0⟩,hbn⟩;have HB5:=aa (ab HB4.out hbn);have HCP5:=aa (HCP4.later hbn);have HQ5:=aa hqb;have HOK0:=aa hok;have HH0:=aa hh0;clear hst hbn hqb hok hh0;go_wp2_with (with_reducible refine ah 38 _ _ rfl ?_)
   refine ak.go ?_;obtain ⟨g12,hg12⟩:∃x,w5.heap.size=x:=⟨_,rfl⟩;rw [hg12];refine an 38 _ _ rfl g12 hg12 (aF s0.pc (.slice (some ⟨q5,0,none⟩) s0.mem.length C5) s0.halt) rfl rfl rfl rfl (aN _ _ _) (dq _ _ _ _ _) ?_;intro w6 hk6 hbn;have HS6:=aa hk6;have HB6:=aa (ab HB5.out hbn);have HCP6:=aa (HCP5.later hbn);have HQ6:=aa (HQ5.later hbn);have HGG:Hid (w1.heap.size≤g12):=by have:=HB5.size;show _≤_;omega
   clear hk6 hbn hg12;obtain ⟨L,hLo,hLk,hL1,hL2⟩:=HCP6.ins k (by omega);have HLK2:=aa hLk;go_wp2_with fail
   refine (rN w6 gc c k L hk4 HCP6.bk ⟨Sl.of_own hLo,hLk,hL1,hL2⟩).mono ?_;rintro e w7 ⟨⟨v7,rfl,hown⟩,hbn⟩;obtain ⟨A7,C7,rfl⟩:=aI hown;obtain ⟨N7,hN7⟩:∃N7,(c.I k).N=N7:=⟨_,rfl⟩;rw [hN7] at hown hL1 hL2 ⊢;have HB7:=aa (ab HB6.out hbn);have HS7:=aa (HS6.later hbn);have HQ7:=aa (HQ6.later hbn);have HO7:=aa (dB hown HB6.size);have HI7:Hid (bZ w7 w7.heap.size ⟨A7,N7,C7⟩ L):=⟨Sl.of_own hown,hLk,hL1,hL2⟩;obtain ⟨R,hR⟩:∃R,coD L=R:=⟨_,rfl⟩;have HRO:Hid (aO R):=by show aO R;rw [←hR];exact xt _
   have HRE:=aa hR;have hcd:=uF w7 ⟨A7,N7,C7⟩ L HI7.out;rw [hR] at hcd;clear hown hbn hN7 hLo hLk hR;go_wp2_with fail
   refine hcd.mono ?_;rintro e w8 ⟨rfl,hbn⟩;have HB8:=aa (ab HB7.out hbn);have HS8:=aa (HS7.later hbn);have HQ8:=aa (HQ7.later hbn);have HO8:=aa (az HO7.out hbn);clear hbn hcd;go_wp2_with (with_reducible refine ah 45 _ _ rfl ?_)
   refine ak.go ?_;obtain ⟨g15,hg15⟩:∃x,w8.heap.size=x:=⟨_,rfl⟩;rw [hg15];refine an 45 _ _ rfl g15 hg15 (dl R) rfl (by rw [bT,HRO.len];rfl) rfl rfl (aq _ HRO.out) (bN _) ?_;intro w9 hk9 hbn;have HB9:=aa (ab HB8.out hbn);have HS9:=aa (HS8.later hbn);have HQ9:=aa (HQ8.later hbn);have HO9:=aa (az HO8.out hbn);have HR9:=aa hk9;have hg:=HS8.lt;have HG:Hid (g12 < g15):=by show _ < _;omega
   clear hk9 hbn hg15 hg;have HQI:Hid (∀i∈L,eB i):=HLK2.out;go_wp2_with fail
   go_loopw [17,18,19,20,21,22,23,24,25,26] (fun i _ _ _ _ _ _ _ _ _ wr=>∃(j:Nat) (s:MsT) (q C:Nat) (zs:List Value),j≤200∧i=.int .i64 j∧Hid (eF s)∧Hid (LpS w1 wr g12 g15 q C zs ⟨A7,N7,C7⟩ L R s)) (fun i _ _ _ _ _ _ _ _ _ _=>200 - (intOf i).toNat)
   case atStart=>exact ⟨0,s0,q5,C5,zs5,by omega,rfl,HOK0.out,HB9.out,HS9.out,HQ9.out,HO9.out,HR9.out⟩
   case round=>
    obtain ⟨j,s,q,C,zs,hj,rfl,hok,hA⟩:=hrel;by_cases hlt:j < 200
    ·have hjn:(j:Int) < 200:=by omega
     have c2:wr.cell? ⟨g12,2,none⟩=some (.int .i64 s.halt):=hA.out.st.cell 2;by_cases hh:s.halt=0
     ·have HIw:Hid (∀wk,LpS w1 wk g12 g15 q C zs ⟨A7,N7,C7⟩ L R s→bZ wk wk.heap.size ⟨A7,N7,C7⟩ L):=fun wk h=>⟨Sl.of_own h.o,HQI.out,hL1,hL2⟩;have HLw:Hid (∀wk,LpS w1 wk g12 g15 q C zs ⟨A7,N7,C7⟩ L R s→cX wk∧6≤wk.heap.size):=fun wk h=>⟨HLD.below H61.out h.b,Nat.le_trans H61.out h.b.size⟩;have hln:L.length=N7:=(HIw.out _ hA.out).len;have HLN:=aa hln;have hms:=nB wr s (some ⟨q,0,none⟩) C ⟨A7,N7,C7⟩ L (hA.out.row hok.out) hok.out hh (HIw.out _ hA.out) (HLw.out _ hA.out).1 (HLw.out _ hA.out).2;have hok' : eF (be (L.map toI) s):=(oc hok.out).1;obtain ⟨s',hs'⟩:∃s',be (L.map toI) s=s':=⟨_,rfl⟩;rw [hs',hh] at hms;rw [hs'] at hok';have HS1:=aa hs';have HH:=aa hh;have HOK':=aa hok';clear hs' hok' hln;go_wp2_with (with_reducible refine aj rfl 38 _ rfl g12 rfl (aF s.pc (.slice (some ⟨q,0,none⟩) s.mem.length C) 0) 38 (by rw [←HH.out];exact hA.out.st) _ Tryz.underlying38 rfl (aN _ _ _) ?_)
      refine hms.mono ?_;rintro e w10 ⟨⟨q10,C10,zs10,rfl,hq0,hqb⟩,hbn⟩;have HA10:=aa (hA.out.later hbn);have HN10:=aa hqb;have HQ0:Hid (g12 < q10):=by show _ < _;have:=hA.out.st.lt;omega
      clear hbn hqb hq0 hms hh c2;go_wp2_with (with_reducible refine ah 38 _ _ rfl ?_)
      refine ak.go ?_;obtain ⟨g18,hg18⟩:∃x,w10.heap.size=x:=⟨_,rfl⟩;rw [hg18];refine an 38 _ _ rfl g18 hg18 (aF s'.pc (.slice (some ⟨q10,0,none⟩) s'.mem.length C10) s'.halt) rfl (rfl) rfl rfl (aN _ _ _) (dq _ _ _ _ _) ?_;intro w11 hk hbn;have HA11:=aa (HA10.later hbn);have HN11:=aa (HN10.later hbn);have HK11:=aa hk;clear hk hbn hg18;obtain ⟨a,ha⟩:∃a,stD s=a:=⟨_,rfl⟩;obtain ⟨b,hb⟩:∃b,stD s'=b:=⟨_,rfl⟩;have HAO:Hid (aO a):=by show aO a;rw [←ha];exact jI _
      have HBO:Hid (aO b):=by show aO b;rw [←hb];exact jI _
      have h1:=mz w11 s (some ⟨q,0,none⟩) C (HA11.row hok.out) hok.out;rw [ha] at h1;have HAE:=aa ha;have HBE:=aa hb;clear ha hb;go_wp2_with (with_reducible refine ao rfl 38 _ rfl g12 rfl (aF s.pc (.slice (some ⟨q,0,none⟩) s.mem.length C) s.halt) 38 HA11.out.st _ Tryz.underlying38 rfl (aN _ _ _) ?_)
      refine h1.mono ?_;rintro e w12 ⟨rfl,hbn⟩;have HA12:=aa (HA11.later hbn);have HN12:=aa (HN11.later hbn);have HK12:=aa (HK11.later hbn);clear hbn h1;go_wp2_with (with_reducible refine ah 45 _ _ rfl ?_)
      refine ak.go ?_;obtain ⟨g19,hg19⟩:∃x,w12.heap.size=x:=⟨_,rfl⟩;rw [hg19];refine an 45 _ _ rfl g19 hg19 (dl a) rfl (by rw [bT,HAO.len];rfl) rfl rfl (aq _ HAO.out) (bN _) ?_;intro w13 hk hbn;have HA13:=aa (HA12.later hbn);have HN13:=aa (HN12.later hbn);have HK13:=aa (HK12.later hbn);have HD13:=aa hk;clear hk hbn hg19;have h2:=mz w13 s' (some ⟨q10,0,none⟩) C10 (sD HN13.out HOK'.len.2) HOK'.out;rw [HBE.out] at h2;go_wp2_with (with_reducible refine ao rfl 38 _ rfl g18 rfl (aF s'.pc (.slice (some ⟨q10,0,none⟩) s'.mem.length C10) s'.halt) 38 HK13.out _ Tryz.underlying38 rfl (aN _ _ _) ?_)
      refine h2.mono ?_;rintro e w14 ⟨rfl,hbn⟩;have HA14:=aa (HA13.later hbn);have HN14:=aa (HN13.later hbn);have HK14:=aa (HK13.later hbn);have HD14:=aa (HD13.later hbn);clear hbn h2;go_wp2_with (with_reducible refine ah 45 _ _ rfl ?_)
      refine ak.go ?_;obtain ⟨g21,hg21⟩:∃x,w14.heap.size=x:=⟨_,rfl⟩;rw [hg21];refine an 45 _ _ rfl g21 hg21 (dl b) rfl (by rw [bT,HBO.len];rfl) rfl rfl (aq _ HBO.out) (bN _) ?_;intro w15 hk hbn;have HA15:=aa (HA14.later hbn);have HN15:=aa (HN14.later hbn);have HK15:=aa (HK14.later hbn);have HD15:=aa (HD14.later hbn);have HE15:=aa hk;clear hk hbn hg21;have h3:=uG w15 s (some ⟨q,0,none⟩) C ⟨A7,N7,C7⟩ L (HA15.row hok.out) hok.out HH.out (HIw.out _ HA15.out) (HLw.out _ HA15.out).1 (HLw.out _ HA15.out).2;go_wp2_with (with_reducible refine ao rfl 38 _ rfl g12 rfl (aF s.pc (.slice (some ⟨q,0,none⟩) s.mem.length C) s.halt) 38 HA15.out.st _ Tryz.underlying38 rfl (aN _ _ _) ?_)
      refine h3.mono ?_;rintro e w16 ⟨⟨t,rfl,hto,hsh⟩,hbn⟩;have HA16:=aa (HA15.later hbn);have HN16:=aa (HN15.later hbn);have HK16:=aa (HK15.later hbn);have HD16:=aa (HD15.later hbn);have HE16:=aa (HE15.later hbn);have HT16:Hid (gq w16 w16.heap.size t):=hto.rd;have HSH:=aa hsh;clear hbn h3 hto hsh;have HAF:Hid (∀wk,LpS w1 wk g12 g15 q C zs ⟨A7,N7,C7⟩ L R s→gq wk wk.heap.size t→Calls Tryz.prog 14 #[.agg (dl R).toArray,.int .i64 N7,.agg (dl a).toArray,.agg (bC s t).toArray] wk fun e w'=>e=.returned (.tuple #[.agg (dl b).toArray,.int .i64 0])∧Below wk.heap.size wk w'):=fun wk h h'=>by have h4:=tq wk R a s t L hok.out HH.out HRO.out HRE.out HAO.out HAE.out (by rw [HLN.out];exact hL1) (by rw [HLN.out];exact hL2) HQI.out HSH.out h' (HLw.out _ h).1 (HLw.out _ h).2;rw [HS1.out,HBE.out,HLN.out] at h4;exact h4
      go_wp2_with (with_reducible refine ah 55 _ _ rfl ?_)
      refine ak.go ?_;obtain ⟨g23,hg23⟩:∃x,w16.heap.size=x:=⟨_,rfl⟩;rw [hg23];refine an 55 _ _ rfl g23 hg23 (bC s t) rfl (by rw [bC,ia (bS s)];rfl) rfl rfl (bv s t) (ky s t) ?_;intro w17 hk hbn;have HA17:=aa (HA16.later hbn);have HN17:=aa (HN16.later hbn);have HK17:=aa (HK16.later hbn);have HD17:=aa (HD16.later hbn);have HE17:=aa (HE16.later hbn);have HT17:=aa (HT16.later hbn);have HP17:=aa hk;clear hk hbn hg23;have h4:=HAF.out w17 HA17.out HT17.out;go_wp2_with (first | (with_reducible refine ao rfl 45 _ rfl g15 rfl (dl R) 45 HA17.out.r _ Tryz.underlying45 rfl (aq _ HRO.out) ?_) | (with_reducible refine ao rfl 45 _ rfl g19 rfl (dl a) 45 HD17.out _ Tryz.underlying45 rfl (aq _ HAO.out) ?_) | (with_reducible refine ao rfl 55 _ rfl g23 rfl (bC s t) 55 HP17.out _ Tryz.underlying55 rfl (bv s t) ?_))
      refine h4.mono ?_;rintro e w18 ⟨rfl,hbn⟩;have HA18:=aa (HA17.later hbn);have HN18:=aa (HN17.later hbn);have HK18:=aa (HK17.later hbn);have HD18:=aa (HD17.later hbn);have HE18:=aa (HE17.later hbn);have HT18:=aa (HT17.later hbn);have HP18:=aa (HP17.later hbn);clear hbn h4;go_wp2_with (with_reducible refine ah 45 _ _ rfl ?_)
      refine ak.go ?_;obtain ⟨g25,hg25⟩:∃x,w18.heap.size=x:=⟨_,rfl⟩;rw [hg25];refine an 45 _ _ rfl g25 hg25 (dl b) rfl (by rw [bT,HBO.len];rfl) rfl rfl (aq _ HBO.out) (bN _) ?_;intro w19 hk hbn;have HA19:=aa (HA18.later hbn);have HN19:=aa (HN18.later hbn);have HK19:=aa (HK18.later hbn);have HD19:=aa (HD18.later hbn);have HE19:=aa (HE18.later hbn);have HT19:=aa (HT18.later hbn);have HP19:=aa (HP18.later hbn);have HF19:=aa hk;clear hk hbn hg25;have hkb:=gI b b HBO.out HBO.out;rw [jN] at hkb;have h5:=lQ w19 R a b b s t N7 true HRO.out HAO.out HBO.out HBO.out (jN b) (fun wk hb=>HAF.out wk (HA19.later hb) (HT19.later hb));rw [if_pos rfl] at h5;go_wp2_with (first | (with_reducible refine ao rfl 45 _ rfl g25 rfl (dl b) 45 HF19.out _ Tryz.underlying45 rfl (aq _ HBO.out) ?_) | (with_reducible refine ao rfl 45 _ rfl g21 rfl (dl b) 45 HE19.out _ Tryz.underlying45 rfl (aq _ HBO.out) ?_) | (with_reducible refine ao rfl 45 _ rfl g15 rfl (dl R) 45 HA19.out.r _ Tryz.underlying45 rfl (aq _ HRO.out) ?_) | (with_reducible refine ao rfl 45 _ rfl g19 rfl (dl a) 45 HD19.out _ Tryz.underlying45 rfl (aq _ HAO.out) ?_) | (with_reducible refine ao rfl 55 _ rfl g23 rfl (bC s t) 55 HP19.out _ Tryz.underlying55 rfl (bv s t) ?_))
      refine h5.mono ?_;rintro e w20 ⟨rfl,hbn⟩;have HA20:=aa (HA19.later hbn);have HN20:=aa (HN19.later hbn);have HK20:=aa (HK19.later hbn);have HD20:=aa (HD19.later hbn);have HE20:=aa (HE19.later hbn);have HT20:=aa (HT19.later hbn);have HP20:=aa (HP19.later hbn);clear hbn h5 hkb;have hkr:=gI a b HAO.out HBO.out;cases hab:eqL a b with
      | true=>
       rw [hab] at hkr;go_wp2_with (first | (with_reducible refine ao rfl 45 _ rfl g19 rfl (dl a) 45 HD20.out _ Tryz.underlying45 rfl (aq _ HAO.out) ?_) | (with_reducible refine ao rfl 45 _ rfl g21 rfl (dl b) 45 HE20.out _ Tryz.underlying45 rfl (aq _ HBO.out) ?_) | (with_reducible refine ao rfl 38 _ rfl g18 rfl (aF s'.pc (.slice (some ⟨q10,0,none⟩) s'.mem.length C10) s'.halt) 38 HK20.out _ Tryz.underlying38 rfl (aN _ _ _) ?_) | (with_reducible refine ah 38 _ _ rfl ?_))
       refine ak.go ?_;refine ic rfl 38 _ _ rfl g12 (aF s'.pc (.slice (some ⟨q10,0,none⟩) s'.mem.length C10) s'.halt) rfl rfl 38 _ HA20.st (aN _ _ _) rfl (dq _ _ _ _ _) ?_;intro w30 hp;have HA30:=aa (HA20.put HGG.out HG.out HQ0.out hp HN20.out);clear hp;go_wp2_with fail
       go_roundw
       case rel=>exact ⟨j+1,s',q10,C10,zs10,by omega,by go_num,HOK'.out,HA30.out⟩
       case measure=>simp [intOf];omega
      | false=>
       rw [hab] at hkr;have hne:a≠b:=of_decide_eq_false hab;have h6:=lQ w20 R a a b s t N7 false HRO.out HAO.out HAO.out HBO.out (decide_eq_false (fun e=>hne e.symm)) (fun wk hb=>HAF.out wk (HA20.later hb) (HT20.later hb));rw [if_neg (by decide)] at h6;have HNE:=aa hne;clear hne hab;go_wp2_with (first | (with_reducible refine ao rfl 45 _ rfl g19 rfl (dl a) 45 HD20.out _ Tryz.underlying45 rfl (aq _ HAO.out) ?_) | (with_reducible refine ao rfl 45 _ rfl g21 rfl (dl b) 45 HE20.out _ Tryz.underlying45 rfl (aq _ HBO.out) ?_) | (with_reducible refine ao rfl 45 _ rfl g15 rfl (dl R) 45 HA20.out.r _ Tryz.underlying45 rfl (aq _ HRO.out) ?_) | (with_reducible refine ao rfl 55 _ rfl g23 rfl (bC s t) 55 HP20.out _ Tryz.underlying55 rfl (bv s t) ?_))
       refine h6.mono ?_;rintro e w21 ⟨rfl,hbn⟩;have HA21:=aa (HA20.later hbn);have HN21:=aa (HN20.later hbn);have HK21:=aa (HK20.later hbn);have HD21:=aa (HD20.later hbn);have HE21:=aa (HE20.later hbn);have HT21:=aa (HT20.later hbn);have HP21:=aa (HP20.later hbn);clear hbn h6 hkr;have h7:=ts w21 R b b ap s t N7 HRO.out HBO.out HBO.out xM (fun wk hb=>by
        have h8:=uL wk R b s t L hok.out HRO.out HBO.out (by rw [HAE.out];exact fun e=>HNE.out e.symm) (by rw [HLN.out];exact hL1) (by rw [HLN.out];exact hL2);rw [HLN.out] at h8;exact h8)
       go_wp2_with (first | (with_reducible refine ao rfl 45 _ rfl g21 rfl (dl b) 45 HE21.out _ Tryz.underlying45 rfl (aq _ HBO.out) ?_) | (with_reducible refine ao rfl 45 _ rfl g15 rfl (dl R) 45 HA21.out.r _ Tryz.underlying45 rfl (aq _ HRO.out) ?_) | (with_reducible refine ao rfl 55 _ rfl g23 rfl (bC s t) 55 HP21.out _ Tryz.underlying55 rfl (bv s t) ?_))
       refine h7.mono ?_;rintro e w22 ⟨rfl,hbn⟩;have HA22:=aa (HA21.later hbn);have HN22:=aa (HN21.later hbn);have HK22:=aa (HK21.later hbn);clear hbn h7;go_wp2_with (first | (with_reducible refine ao rfl 38 _ rfl g18 rfl (aF s'.pc (.slice (some ⟨q10,0,none⟩) s'.mem.length C10) s'.halt) 38 HK22.out _ Tryz.underlying38 rfl (aN _ _ _) ?_) | (with_reducible refine ah 38 _ _ rfl ?_))
       refine ak.go ?_;refine ic rfl 38 _ _ rfl g12 (aF s'.pc (.slice (some ⟨q10,0,none⟩) s'.mem.length C10) s'.halt) rfl rfl 38 _ HA22.st (aN _ _ _) rfl (dq _ _ _ _ _) ?_;intro w30 hp;have HA30:=aa (HA22.put HGG.out HG.out HQ0.out hp HN22.out);clear hp;go_wp2_with fail
       go_roundw
       case rel=>exact ⟨j+1,s',q10,C10,zs10,by omega,by go_num,HOK'.out,HA30.out⟩
       case measure=>simp [intOf];omega
     ·go_wp2_with (refine (HAW.out _).mono ?_;rintro e w4 ⟨rfl,hbn⟩)
      go_ret;exact ⟨rfl,ab HB.out (ab hA.out.b hbn)⟩
    ·have hjn:¬(j:Int) < 200:=by omega
     go_wp2_with (refine (HAW.out _).mono ?_;rintro e w4 ⟨rfl,hbn⟩)
     go_ret;exact ⟨rfl,ab HB.out (ab hA.out.b hbn)⟩
open Go.ChangeShapes Go.WideShapes Go.ChangeAt Go.Deep
section
variable {H:Type}
theorem j5 (d:DataW H):1≤Rows.uptoBulk d:=by
 cases d with
 | lit l=>cases l <;> simp [Rows.uptoBulk]
 | nil=>simp [Rows.uptoBulk]
 | ptr d=>simp [Rows.uptoBulk]
 | slice elems spare=>simp [Rows.uptoBulk]
 | agg parts=>simp [Rows.uptoBulk]
 | iface t d=>simp [Rows.uptoBulk]
 | map entries=>simp [Rows.uptoBulk]
 | held h=>simp [Rows.uptoBulk]
theorem kJ {d:DataW H} {l:List (DataW H)} (h:d∈l):Rows.uptoBulk d≤Rows.uptoBulkAll l:=by
 induction l with
 | nil=>cases h
 | cons x r ih=>
  simp only [Rows.uptoBulkAll];cases List.mem_cons.1 h with
  | inl e=>subst e;omega
  | inr e=>have:=ih e;omega
theorem tG (l:List (DataW H)):l.length≤Rows.uptoBulkAll l:=by
 induction l with
 | nil=>simp [Rows.uptoBulkAll]
 | cons x r ih=>have:=j5 x;simp only [Rows.uptoBulkAll,List.length_cons];omega
theorem jB (elems spare:List (DataW H)):Rows.uptoBulkAll elems+1≤Rows.uptoBulk (.slice elems spare):=by simp only [Rows.uptoBulk];omega
theorem iz (s:ByteArray):s.size+1≤Rows.uptoBulk (DataW.lit (H:=H) (.string s.data.toList)):=by simp only [Rows.uptoBulk,Array.length_toList];exact Nat.le_refl _
end
theorem ff {z:Int} (h:(Lit.int .i64 z).wf=true) : -9223372036854775808≤z∧z < 9223372036854775808:=by simp [Lit.wf,IntKind.min,IntKind.max,IntKind.signed,IntKind.bits] at h;omega
theorem yc {z:Int} (h:(Lit.int .i32 z).wf=true) : -2147483648≤z∧z≤2147483647:=by simp [Lit.wf,IntKind.min,IntKind.max,IntKind.signed,IntKind.bits] at h;omega
theorem bz (l:List Value) (a b:Nat):l.drop a=(l.drop a).take b ++ l.drop (a+b):=by rw [←List.drop_drop,List.take_append_drop]
theorem pR {H:Type} {enc:TypeId × Value→H} {P:Program} {W:World} {t e:TypeId} {v:Value} {fuel:Nat} {y:DataW H × List MemPlace} {α:Type} [Inhabited α] {f:α→List Value} {ok:α→Prop} {m M:Nat} (ht:P.underlying t=some (.slice e)) (hm:P.cellsOf e=m) (hpos:0 < m) (hrd:∀(n:Nat) (cs:List Value) (y:DataW H × List MemPlace),DataW.trod enc P W 0 (fun _=>true) true n e cs=some y→Rows.uptoBulk y.1≤M→∃a,cs=f a∧ok a) (hf:DataW.trod enc P W 0 (fun _=>true) true fuel t [v]=some y) (hb:Rows.uptoBulk y.1≤M):∃(A:Option Addr) (n c:Nat) (zs:List α),v=.slice A n c∧zs.length=n∧n≤c∧Sl W W.heap.size m A n (zs.flatMap f)∧(∀z∈zs,ok z)∧n+1≤Rows.uptoBulk y.1:=by
 rcases open_slice ht hf with ⟨hcs,hy⟩ | ⟨x,len,cap,m',n,D,Pl,hcs,_,hl,hmx,hmm,hy,hx⟩
 ·simp at hcs;subst hcs;exact ⟨none,0,0,[],rfl,rfl,Nat.le_refl _,Sl.nil,by simp,j5 _⟩
 ·simp at hcs;subst hcs;rw [hm] at hx;have hlm:len≤m':=by simp at hmm;omega
  have hall:Rows.uptoBulkAll ((List.range len).map D)+1≤Rows.uptoBulk y.1:=by rw [hy];exact jB _ _
  have hwt:∀i,i < len→Rows.uptoBulk (D i)≤M:=fun i hi=>by have h1:=kJ (l:=(List.range len).map D) (List.mem_map.2 ⟨i,List.mem_range.2 hi,rfl⟩);omega
  have hmany:=tG ((List.range len).map D);rw [List.length_map,List.length_range] at hmany;obtain ⟨F,hF⟩:=choose_lt (n:=len) (p:=fun i a=>(∀j,j < m→W.cell? (x.add (i*m+j))=(f a)[j]?)∧ok a∧(f a).length=m) (fun i hi=>by
   obtain ⟨cs',h1,h2⟩:=hx i (by omega);obtain ⟨_,h3,h4⟩:=World.cells?_some h1;obtain ⟨a,rfl,h5⟩:=hrd _ _ _ h2 (hwt i hi);exact ⟨a,fun j hj=>by rw [←h4 j hj,jM],h5,h3⟩)
  have hlen:∀z∈(List.range len).map F,(f z).length=m:=fun z hz=>by obtain ⟨i,hi,rfl⟩:=List.mem_map.1 hz;exact (hF i (List.mem_range.1 hi)).2.2
  refine ⟨_,len,cap,(List.range len).map F,rfl,by simp,hl,⟨by rw [lk _ hlen];simp,by unfold maxLen at hmx;omega,fun hn=>⟨x,rfl,?_,fun j u hu=>?_⟩⟩,fun z hz=>?_,by omega⟩
  ·have h1:=(hF 0 hn).1 0 hpos;have h2:=(hF 0 hn).2.2;rw [List.getElem?_eq_getElem (by omega)] at h1;have:=lb h1;rwa [du] at this
  ·have hjl:j < len*m:=by
    have:=(List.getElem?_eq_some_iff.1 hu).1;rw [lk _ hlen] at this;simpa using this
   have e:j=j / m*m+j % m:=by rw [Nat.mul_comm];exact (Nat.div_add_mod j m).symm
   have hi:j / m < len:=(Nat.div_lt_iff_lt_mul hpos).2 hjl;have hr:j % m < m:=Nat.mod_lt _ hpos;rw [e,oW _ hlen (j / m) (j % m) (F (j / m)) (by simp [hi]) hr] at hu;rw [e,(hF _ hi).1 _ hr,hu]
  ·obtain ⟨i,hi,rfl⟩:=List.mem_map.1 hz;exact (hF i (List.mem_range.1 hi)).2.1
theorem AF {H:Type} {enc:TypeId × Value→H} {W:World} (n:Nat) (cs:List Value) (y:DataW H × List MemPlace) (h:DataW.trod enc Tryz.prog W 0 (fun _=>true) true n 81 cs=some y) (hb:Rows.uptoBulk y.1≤1048576):∃v:VaT,cs=vaC v∧mf v:=by
 obtain ⟨xs,m,_,hdx,hlen,hxl,hg⟩:=DataW.trod_struct Tryz.underlying81 h;have hl4:cs.length=4:=by rw [hlen];kernel_rfl
 match xs,hxl with
 | [y0,y1,y2,y3],_=>
  have g0:DataW.trod enc Tryz.prog W 0 (fun _=>true) true m 9 (List.take (Tryz.prog.cellsOf 9) (List.drop 0 cs))=some y0:=hg 0 _ rfl;have g1:DataW.trod enc Tryz.prog W 0 (fun _=>true) true m 3 (List.take (Tryz.prog.cellsOf 3) (List.drop 1 cs))=some y1:=hg 1 _ rfl;have g2:DataW.trod enc Tryz.prog W 0 (fun _=>true) true m 3 (List.take (Tryz.prog.cellsOf 3) (List.drop 2 cs))=some y2:=hg 2 _ rfl;have g3:DataW.trod enc Tryz.prog W 0 (fun _=>true) true m 3 (List.take (Tryz.prog.cellsOf 3) (List.drop 3 cs))=some y3:=hg 3 _ rfl;have ci:Tryz.prog.cellsOf 3=1:=by kernel_rfl
  have cs1:Tryz.prog.cellsOf 9=1:=by kernel_rfl
  rw [ci] at g1 g2 g3;rw [cs1] at g0;obtain ⟨s,e0,hd0,_⟩:=DataW.trod_string Tryz.underlying9 g0;obtain ⟨n,e1,_,hn⟩:=DataW.trod_int Tryz.underlying3 g1;obtain ⟨e,e2,_,he⟩:=DataW.trod_int Tryz.underlying3 g2;obtain ⟨k,e3,_,hk⟩:=DataW.trod_int Tryz.underlying3 g3;have hd:y.1=.agg [y0.1,y1.1,y2.1,y3.1]:=by have:=congrArg Prod.fst hdx;simpa using this
  have hs:s.size+1≤Rows.uptoBulk y.1:=by rw [hd,hd0];have:=iz (H:=H) s;simp only [Rows.uptoBulk,Rows.uptoBulkAll] at this ⊢;omega
  refine ⟨⟨s,n,e,k⟩,?_,⟨by show s.size≤_;omega,ff hn,ff he,ff hk⟩⟩;rw [show cs=cs.drop 0 from rfl,bz cs 0 1,e0,bz cs (0+1) 1,e1,bz cs (0+1+1) 1,e2,bz cs (0+1+1+1) 1,e3,List.drop_of_length_le (by omega)];rfl
instance :Inhabited VaT:=⟨⟨⟨#[]⟩,0,0,0⟩⟩
theorem sG {H:Type} {enc:TypeId × Value→H} {W:World} {fuel:Nat} {v:Value} {y:DataW H × List MemPlace} (h:DataW.trod enc Tryz.prog W 0 (fun _=>true) true fuel 23 [v]=some y) (hb:Rows.uptoBulk y.1≤1048576):∃(s:Sln) (l:List VaT),v=s.v∧el W W.heap.size s.A s.N l∧s.N≤s.C∧l.length+1≤Rows.uptoBulk y.1:=by obtain ⟨A,n,c,zs,rfl,hl,hc,hs,ho,hn⟩:=pR (f:=vaC) (ok:=mf) Tryz.underlying23 (show _=4 by kernel_rfl) (by omega) (fun n cs y=>AF n cs y) h hb;exact ⟨⟨A,n,c⟩,zs,rfl,⟨hs,ho⟩,hc,by omega⟩
theorem vH (l:List Int):l.flatMap (fun z=>[Value.int .i64 z])=l.map (.int .i64):=by
 induction l with
 | nil=>rfl
 | cons x l ih=>rw [List.flatMap_cons,ih];rfl
theorem yd {H:Type} {enc:TypeId × Value→H} {W:World} {fuel:Nat} {v:Value} {y:DataW H × List MemPlace} (h:DataW.trod enc Tryz.prog W 0 (fun _=>true) true fuel 22 [v]=some y) (hb:Rows.uptoBulk y.1≤1048576):∃(s:Sln) (l:List Int),v=s.v∧Sl W W.heap.size 1 s.A s.N (l.map (.int .i64))∧s.N≤s.C∧s.N+1≤Rows.uptoBulk y.1∧∀z∈l,-9223372036854775808≤z∧z < 9223372036854775808:=by
 obtain ⟨A,n,c,zs,rfl,hl,hc,hs,ho,hn⟩:=pR (f:=fun z:Int=>[Value.int .i64 z]) (ok:=fun z:Int=>-9223372036854775808≤z∧z < 9223372036854775808) Tryz.underlying22 (show _=1 by kernel_rfl) (by omega)
  (fun n cs y h _=>by obtain ⟨z,e,_,hz⟩:=DataW.trod_int Tryz.underlying3 h;exact ⟨z,e,ff hz⟩) h hb
 rw [vH] at hs;exact ⟨⟨A,n,c⟩,zs,rfl,hs,hc,hn,ho⟩
theorem zc {H:Type} {W:World} {a:Addr} : ∀(l:List (DataW H)) (k:Nat),(∀i d,l[i]?=some d→∃op n nm A N C K,(∀j u,(exC op n nm A N C)[j]?=some u→W.cell? (a.add ((k+i)*4+j))=some u)∧de W W.heap.size A N K∧(-9223372036854775808≤op∧op < 9223372036854775808)∧(-9223372036854775808≤n∧n < 9223372036854775808)∧nm.size≤1048576∧N≤C∧K.size+1≤Rows.uptoBulk d)→∃F:Es,F.len=l.length∧F.Ok∧F.At W W.heap.size∧(∀j u,F.cells[j]?=some u→W.cell? (a.add (k*4+j))=some u)∧F.size≤Rows.uptoBulkAll l
 | [],k,_=>⟨.nil,rfl,trivial,trivial,by intro j u h;simp [Es.cells] at h,by simp [Es.size]⟩
 | d :: l,k,h=>by
  obtain ⟨op,n,nm,A,N,C,K,hc,hK,ho,hn,hnm,hNC,hsz⟩:=h 0 d rfl;obtain ⟨F,h1,h2,h3,h4,h5⟩:=zc l (k+1) (fun i d' hd=>by
   have:=h (i+1) d' (by simpa using hd);rwa [show k+(i+1)=k+1+i by omega] at this)
  refine ⟨.cons op n nm A N C K F,by simp [Es.len,h1],⟨ho,hn,hnm,hNC,hK.len,hK.ok,h2⟩,⟨hK.sl,hK.at_,h3⟩,fun j u hu=>?_,by simp only [Es.size,Rows.uptoBulkAll];omega⟩;rw [Es.cells] at hu;by_cases hj:j < 4
  ·rw [List.getElem?_append_left (by simpa [exC] using hj)] at hu;exact hc j u hu
  ·rw [List.getElem?_append_right (by simp [exC];omega)] at hu;have:=h4 _ u hu;rwa [show (k+1)*4+(j - (exC op n nm A N C).length)=k*4+j by simp [exC];omega] at this
set_option maxRecDepth 20000 in
theorem ye {H:Type} {enc:TypeId × Value→H} {W:World} (fuel:Nat):∀(v:Value) (y:DataW H × List MemPlace),DataW.trod enc Tryz.prog W 0 (fun _=>true) true fuel 131 [v]=some y→Rows.uptoBulk y.1≤1048576→∃(s:Sln) (F:Es),v=s.v∧de W W.heap.size s.A s.N F∧s.N≤s.C∧F.size+1≤Rows.uptoBulk y.1:=by
 induction fuel using Nat.strongRecOn with
 | ind fuel ih=>
  intro v y h hb;rcases DataW.trod_slice Tryz.underlying131 h with ⟨hcs,hx⟩ | ⟨a,len,cap,elems,rest,n,hfu,hcs,hx,_,hlc,hcm,hel,hi,_,_⟩
  ·simp at hcs;subst hcs;exact ⟨⟨none,0,0⟩,.nil,rfl,de.nil _ _,Nat.le_refl _,j5 _⟩
  ·simp at hcs;subst hcs;have hy:y.1=.slice (elems.map (·.1)) (rest.map (·.1)):=by rw [hx]
   have hall:=jB (elems.map (·.1)) (rest.map (·.1));rw [←hy] at hall;have c4:Tryz.prog.cellsOf 255=4:=by kernel_rfl
   rw [c4] at hi;obtain ⟨F,h1,h2,h3,h4,h5⟩:=zc (W:=W) (a:=a) (elems.map (·.1)) 0 (fun i d hd=>by
    obtain ⟨x,hxe,rfl⟩:∃x,elems[i]?=some x∧x.1=d:=by simpa using hd
    have hil:i < len:=by have:=(List.getElem?_eq_some_iff.1 hxe).1;omega
    have h1:=hi i hil;rw [hxe] at h1;obtain ⟨cs,h2,h3⟩:=Option.bind_eq_some_iff.1 h1;obtain ⟨_,hl4,hcell⟩:=World.cells?_some h2;obtain ⟨xs,m,hm,hdx,hlen,hxl,hg⟩:=DataW.trod_struct Tryz.underlying255 h3;match xs,hxl with
    | [y0,y1,y2,y3],_=>
     have g0:DataW.trod enc Tryz.prog W 0 (fun _=>true) true m 3 (List.take (Tryz.prog.cellsOf 3) (List.drop 0 cs))=some y0:=hg 0 _ rfl;have g1:DataW.trod enc Tryz.prog W 0 (fun _=>true) true m 3 (List.take (Tryz.prog.cellsOf 3) (List.drop 1 cs))=some y1:=hg 1 _ rfl;have g2:DataW.trod enc Tryz.prog W 0 (fun _=>true) true m 9 (List.take (Tryz.prog.cellsOf 9) (List.drop 2 cs))=some y2:=hg 2 _ rfl;have g3:DataW.trod enc Tryz.prog W 0 (fun _=>true) true m 131 (List.take (Tryz.prog.cellsOf 131) (List.drop 3 cs))=some y3:=hg 3 _ rfl;have ci:Tryz.prog.cellsOf 3=1:=by kernel_rfl
     have cs1:Tryz.prog.cellsOf 9=1:=by kernel_rfl
     have ce:Tryz.prog.cellsOf 131=1:=by kernel_rfl
     rw [ci] at g0 g1;rw [cs1] at g2;rw [ce] at g3;obtain ⟨op,e0,hd0,ho⟩:=DataW.trod_int Tryz.underlying3 g0;obtain ⟨q,e1,hd1,hq⟩:=DataW.trod_int Tryz.underlying3 g1;obtain ⟨s,e2,hd2,_⟩:=DataW.trod_string Tryz.underlying9 g2;have hd:x.1=.agg [y0.1,y1.1,y2.1,y3.1]:=by have:=congrArg Prod.fst hdx;simpa using this
     have hxb:Rows.uptoBulk x.1≤1048576:=by have:=kJ (d:=x.1) (l:=elems.map (·.1)) (List.mem_map.2 ⟨x,List.mem_of_getElem? hxe,rfl⟩);omega
     have hs:s.size+Rows.uptoBulk y3.1+1≤Rows.uptoBulk x.1:=by rw [hd,hd2];have:=iz (H:=H) s;simp only [Rows.uptoBulk,Rows.uptoBulkAll] at this ⊢;omega
     obtain ⟨v3,e3⟩:∃v3,List.take 1 (List.drop 3 cs)=[v3]:=by
      match hq:List.drop 3 cs,(show (List.drop 3 cs).length=1 by rw [List.length_drop];omega) with
      | [u],_=>exact ⟨u,rfl⟩
     rw [e3] at g3;obtain ⟨S,K,rfl,hK,hSC,hsz⟩:=ih m (by omega) v3 y3 g3 (by omega);refine ⟨op,q,s,S.A,S.N,S.C,K,fun j u hu=>?_,hK,ff ho,ff hq,by omega,hSC,by omega⟩;have hce:cs=exC op q s S.A S.N S.C:=by rw [show cs=cs.drop 0 from rfl,bz cs 0 1,e0,bz cs (0+1) 1,e1,bz cs (0+1+1) 1,e2,bz cs (0+1+1+1) 1,e3,List.drop_of_length_le (by omega)];rfl
     have hj:j < 4:=by have:=(List.getElem?_eq_some_iff.1 hu).1;simpa [exC] using this
     rw [←hce] at hu;rw [Nat.zero_add,←jM,hcell j hj,hu])
   rw [List.length_map,hel] at h1;refine ⟨⟨some a,len,cap⟩,F,rfl,⟨⟨by rw [Es.cells_len,h1],by show len≤_;unfold maxLen at hcm;omega,fun hn=>⟨a,rfl,?_,fun j u hu=>?_⟩⟩,h3,h2⟩,hlc,by omega⟩
   ·have hn' : 0 < len:=hn;obtain ⟨u,hu⟩:∃u,F.cells[0]?=some u:=⟨_,List.getElem?_eq_getElem (by rw [Es.cells_len];omega)⟩;have:=lb (h4 0 u hu);rwa [du] at this
   ·have:=h4 j u hu;rwa [Nat.zero_mul,Nat.zero_add] at this
end Go.Proofs.YtllbdpdnpaocnaaGreatDoor
