/- Part of the proof of WholeStep. -/
import Derived.Test.YtllbdpdnpaocnaaGreatDoorZAY
namespace Go.Proofs.YtllbdpdnpaocnaaGreatDoor
set_option linter.unusedSimpArgs false
set_option linter.unusedVariables false
set_option linter.constructorNameAsVariable false
open Go.RowKit Go.Maps
theorem wI (kd:Int) (nm:ByteArray) (A:Option Addr) (N C:Nat) (lo hi:Int) (A1:Option Addr) (N1 C1:Nat) (A2:Option Addr) (N2 C2:Nat):∀v∈aR kd nm A N C lo hi A1 N1 C1 A2 N2 C2,v.oneCell'=true:=by intro v hv;simp only [aR,List.mem_cons,List.not_mem_nil,or_false] at hv;rcases hv with rfl | rfl | rfl | rfl | rfl | rfl | rfl <;> rfl
set_option maxRecDepth 20000 in
set_option maxHeartbeats 1000000 in
theorem un (F:Ss):∀(w:World) (A:Option Addr) (N C:Nat),cE w w.heap.size A N F→F.size≤1048576→Calls Tryz.prog 63 #[.slice A N C] w fun e w'=>fq e∧Below w.heap.size w w':=by
 obtain ⟨m,hm⟩:∃m,F.size=m:=⟨_,rfl⟩;induction m using Nat.strongRecOn generalizing F with
 | ind m ih=>
  intro w A N C hF hsz;have HF:=aa hF;have HIH:=aa ih;have HM:=aa hm;have hN2:N≤F.size:=by have:=hF.len;have:=Ss.len_size F;omega
  clear ih hm hF;go_enter Tryz.func63,Tryz.ntmps63;go_wp2_with fail
  go_loopw [3,4] (fun i _ wr=>∃(k:Nat),k≤N∧i=.int .i64 k∧Hid (Below w.heap.size w wr)) (fun i _ _=>N - (intOf i).toNat)
  case atStart=>exact ⟨0,Nat.zero_le _,rfl,Below.refl _ _⟩
  case round=>
   obtain ⟨k,hk,rfl,hB⟩:=hrel;by_cases hlt:k < N
   ·obtain ⟨b,o,kd,nm,A3,N3,C3,E,lo,hi,A4,N4,C4,L,A5,N5,C5,M,rest,hA,hb,hr,e1,e2,hS,hsz3⟩:=HF.spot hlt;have HR:=aa (eo hr hB.out hb);have HSl:=aa hS.l;have HSm:=aa hS.m;have hkN:(k:Int) < N:=by omega
    clear hr e1 e2 hS;subst hA;go_wp2_with (first | (with_reducible refine wpList_load_mid rfl 133 _ rfl b (o+k*7) rfl (aR kd nm A3 N3 C3 lo hi A4 N4 C4 A5 N5 C5) _ HR.out Tryz.underlying133 rfl (lj _ _ _ _ _ _ _ _ _ _ _ _ _) ?_) | (with_reducible refine ah 133 _ _ rfl ?_))
    refine ak.go ?_;obtain ⟨g3,hg3⟩:∃q,wr.heap.size=q:=⟨_,rfl⟩;rw [hg3];refine an 133 _ _ rfl g3 hg3 (aR kd nm A3 N3 C3 lo hi A4 N4 C4 A5 N5 C5) rfl rfl rfl rfl (lj _ _ _ _ _ _ _ _ _ _ _ _ _) (wI _ _ _ _ _ _ _ _ _ _ _ _ _) ?_;intro w3 hk hbn;have HK3:=aa hk;have HB3:=aa hbn;clear hk hbn;have HB3w:=aa (ab hB.out HB3.out);have d0:w3.cell? ⟨g3,0,none⟩=some (.int .i64 kd):=HK3.cell 0;by_cases h6:kd=6
    ·subst h6;go_wp2_with fail
     go_ret;exact ⟨⟨_,rfl⟩,HB3w.out⟩
    by_cases h7:kd=7
    ·subst h7;go_wp2_with fail
     go_ret;exact ⟨⟨_,rfl⟩,HB3w.out⟩
    by_cases h2:kd=2
    ·subst h2;have d5:w3.cell? ⟨g3,5,none⟩=some (.slice A4 N4 C4):=HK3.cell 5;go_wp2_with fail
     refine (HIH.out L.size (by have:=HM.out;omega) L rfl w3 A4 N4 C4 ((HSl.below HB3w.out).more HB3w.size) (by omega)).mono ?_;rintro e w4 ⟨⟨y4,rfl⟩,hbn⟩;have HB4:=aa (ab HB3w.out hbn);have HK4:=aa (HK3.later hbn);clear hbn d5 d0;cases y4 with
     | false=>
      go_wp2_with fail
      go_roundw
      case rel=>exact ⟨k+1,by omega,by go_num,HB4.out⟩
      case measure=>simp [intOf];omega
     | true=>
      have d6:w4.cell? ⟨g3,6,none⟩=some (.slice A5 N5 C5):=HK4.cell 6;go_wp2_with fail
      refine (HIH.out M.size (by have:=HM.out;omega) M rfl w4 A5 N5 C5 ((HSm.below HB4.out).more HB4.size) (by omega)).mono ?_;rintro e w5 ⟨⟨y5,rfl⟩,hbn⟩;have HB5:=aa (ab HB4.out hbn);clear hbn d6;cases y5 with
      | false=>
       go_wp2_with fail
       go_roundw
       case rel=>exact ⟨k+1,by omega,by go_num,HB5.out⟩
       case measure=>simp [intOf];omega
      | true=>
       go_wp2_with fail
       go_ret;exact ⟨⟨_,rfl⟩,HB5.out⟩
    go_wp2_with fail
    go_roundw
    case rel=>exact ⟨k+1,by omega,by go_num,HB3w.out⟩
    case measure=>simp [intOf];omega
   ·go_wp2_with fail
    go_ret;exact ⟨⟨_,rfl⟩,hB.out⟩
theorem wJ (p:PgT) (w:World):(Instr.build 128 #[(0,.agg (pgC p).toArray)]).run Tryz.prog w=.ok (.agg (kwC p none 0 0).toArray) w:=by kernel_rfl
theorem AM (p:PgT) {k:Nat} (hk:k≤4):([p.st.v,p.tu.v,p.pl.v,p.qu.v,p.py.v]:List Value)[k]?=some (.slice (ptS p k).A (ptS p k).N (ptS p k).C):=by
 have:k=0∨k=1∨k=2∨k=3∨k=4:=by omega
 rcases this with rfl | rfl | rfl | rfl | rfl <;> rfl
set_option maxRecDepth 100000 in
set_option maxHeartbeats 8000000 in
theorem oK (w:World) (p:PgT) (h:cI w w.heap.size p):Calls Tryz.prog 19 #[.agg (pgC p).toArray] w fun e w'=>iJ e∧Below w.heap.size w w':=by
 obtain ⟨z,hz⟩:∃z,w.heap.size=z:=⟨_,rfl⟩;obtain ⟨w1,hw1⟩:∃w1,(w.alloc (.cells (pgC p).toArray 26)).alloc (.cells #[.int .i64 0,.string ⟨#[]⟩] 69)=w1:=⟨_,rfl⟩;have hp:Bk w1 z 26 (pgC p):=hw1▸(Bk.at_ w _ _ hz rfl).alloc _;have hk:Bk w1 (z+1) 69 [.int .i64 0,.string ⟨#[]⟩]:=hw1▸Bk.at_ _ _ _ (by simp [hz]) rfl;have hb:Below w.heap.size w w1:=hw1▸(ai w _).alloc (by simp) _;have HW:=aa hw1;have HB:=aa hb;have HPG:=aa (h.later hb);have HP0:=aa (h.below hb);have HK:=aa hk;have HZ:=aa hz;have HP:=aa hp;have hN2:p.pa.N≤1048576∧p.vr.N≤1048576:=by have:=h.few;have:=h.pa.len;have:=h.vr.len;unfold PgT.size at *; omega
 have hskN:=h.skn;have hcap:=h.cap;have hfew:=h.few;have hsi:=h.si;have hnm:=h.nm;have hbf:=fK;have hbf1:=jg;obtain ⟨se,hse⟩:∃se,p.seats=se:=⟨_,rfl⟩;have HSE:=aa hse;clear hk hw1 h hb hz hp hse;go_enter Tryz.func19,Tryz.ntmps19;go_upto_region 1 with fail
 rw [HW.out,HZ.out];have c0:w1.cell? ⟨z,0,none⟩=some (.string p.nm):=HP.cell 0;go_wp2_with fail
 refine (fu p.nm hnm w1).mono ?_;rintro e w2 ⟨⟨y2,rfl⟩,hbn⟩;have HB2:=aa hbn;clear hbn c0;cases y2 with
 | false=>
  have c0:w2.cell? ⟨z,0,none⟩=some (.string p.nm):=(HP.later HB2.out).cell 0;go_wp2_with (with_reducible refine ah 69 _ _ rfl ?_)
  refine ak.go ?_;refine ae rfl 69 _ _ rfl (z+1) 0 (.agg #[.int .i64 6,.string p.nm]) [.int .i64 6,.string p.nm] rfl rfl rfl 69 [] [.int .i64 0,.string ⟨#[]⟩] [] (by simpa using HK.later HB2.out) rfl rfl (al _ _) (ax _ _) ?_;intro wz hp;have hbk:Bk wz (z+1) 69 [.int .i64 6,.string p.nm]:=by have:=hp.bk;simpa using this
  have HBKz:=aa hbk;have HBz:=aa (ag (ab HB.out (HB2.out)) hp.only (ab HB.out (HB2.out)).size (by have:=HZ.out;omega));clear hp hbk;go_wp2_with fail
  refine bodyPost_ret (am rfl _ _ (z+1) 69 [.int .i64 6,.string p.nm] _ rfl HBKz.out Tryz.underlying69 rfl (al _ _)) rfl ?_;exact ⟨⟨_,_,rfl⟩,HBz.out⟩
 | true=>
  have c1:w2.cell? ⟨z,1,none⟩=some (.int .i64 se):=by rw [←HSE.out];exact (HP.later HB2.out).cell 1
  have c2:w2.cell? ⟨z,2,none⟩=some (.slice p.sk.A p.sk.N p.sk.C):=(HP.later HB2.out).cell 2;go_wp2_with fail
  refine (gZ _ _ _ w2).mono ?_;rintro e w' ⟨rfl,rfl⟩;cases dt se 2 8 with
  | false=>
   go_wp2_with (with_reducible refine ah 69 _ _ rfl ?_)
   refine ak.go ?_;refine ae rfl 69 _ _ rfl (z+1) 0 (.agg #[.int .i64 2,.string ⟨#[115,101,97,116,115]⟩]) [.int .i64 2,.string ⟨#[115,101,97,116,115]⟩] rfl rfl rfl 69 [] [.int .i64 0,.string ⟨#[]⟩] [] (by simpa using HK.later HB2.out) rfl rfl (al _ _) (ax _ _) ?_;intro wz hp;have hbk:Bk wz (z+1) 69 [.int .i64 2,.string ⟨#[115,101,97,116,115]⟩]:=by have:=hp.bk;simpa using this
   have HBKz:=aa hbk;have HBz:=aa (ag (ab HB.out (HB2.out)) hp.only (ab HB.out (HB2.out)).size (by have:=HZ.out;omega));clear hp hbk;go_wp2_with fail
   refine bodyPost_ret (am rfl _ _ (z+1) 69 [.int .i64 2,.string ⟨#[115,101,97,116,115]⟩] _ rfl HBKz.out Tryz.underlying69 rfl (al _ _)) rfl ?_;exact ⟨⟨_,_,rfl⟩,HBz.out⟩
  | true=>
   by_cases hq:(p.sk.N:Int)=se;rotate_left
   ·
    go_wp2_with (with_reducible refine ah 69 _ _ rfl ?_)
    refine ak.go ?_;refine ae rfl 69 _ _ rfl (z+1) 0 (.agg #[.int .i64 3,.string ⟨#[115,116,97,107,101]⟩]) [.int .i64 3,.string ⟨#[115,116,97,107,101]⟩] rfl rfl rfl 69 [] [.int .i64 0,.string ⟨#[]⟩] [] (by simpa using HK.later HB2.out) rfl rfl (al _ _) (ax _ _) ?_;intro wz hp;have hbk:Bk wz (z+1) 69 [.int .i64 3,.string ⟨#[115,116,97,107,101]⟩]:=by have:=hp.bk;simpa using this
    have HBKz:=aa hbk;have HBz:=aa (ag (ab HB.out (HB2.out)) hp.only (ab HB.out (HB2.out)).size (by have:=HZ.out;omega));clear hp hbk;go_wp2_with fail
    refine bodyPost_ret (am rfl _ _ (z+1) 69 [.int .i64 3,.string ⟨#[115,116,97,107,101]⟩] _ rfl HBKz.out Tryz.underlying69 rfl (al _ _)) rfl ?_;exact ⟨⟨_,_,rfl⟩,HBz.out⟩
   subst hq;go_wp2_with fail
   clear c1 c2;go_loopw [3] (fun i wr=>∃(k:Nat),k≤p.sk.N∧i=.int .i64 k∧Hid (Below w1.heap.size w1 wr)) (fun i _=>p.sk.N - (intOf i).toNat)
   case atStart=>exact ⟨0,Nat.zero_le _,rfl,HB2.out⟩
   case round=>
    obtain ⟨k,hk,rfl,hB⟩:=hrel;have c2:wr.cell? ⟨z,2,none⟩=some (.slice p.sk.A p.sk.N p.sk.C):=(HP.later hB.out).cell 2;by_cases hlt:k < p.sk.N
    ·obtain ⟨ad,x,hA,hb,hx,hc⟩:=(HP0.sk.below (hB.out.mono HB.size)).atg hlt;have hkN:(k:Int) < p.sk.N:=by omega
     rw [hA] at c2;clear hb hx hA;go_wp2_with fail
     refine (gZ _ _ _ wr).mono ?_;rintro e w' ⟨rfl,rfl⟩;cases dt x 1 2147483647 with
     | false=>
      go_wp2_with (with_reducible refine ah 69 _ _ rfl ?_)
      refine ak.go ?_;refine ae rfl 69 _ _ rfl (z+1) 0 (.agg #[.int .i64 2,.string ⟨#[115,116,97,107,101]⟩]) [.int .i64 2,.string ⟨#[115,116,97,107,101]⟩] rfl rfl rfl 69 [] [.int .i64 0,.string ⟨#[]⟩] [] (by simpa using HK.later hB.out) rfl rfl (al _ _) (ax _ _) ?_;intro wz hp;have hbk:Bk wz (z+1) 69 [.int .i64 2,.string ⟨#[115,116,97,107,101]⟩]:=by have:=hp.bk;simpa using this
      have HBKz:=aa hbk;have HBz:=aa (ag (ab HB.out (hB.out)) hp.only (ab HB.out (hB.out)).size (by have:=HZ.out;omega));clear hp hbk;go_wp2_with fail
      refine bodyPost_ret (am rfl _ _ (z+1) 69 [.int .i64 2,.string ⟨#[115,116,97,107,101]⟩] _ rfl HBKz.out Tryz.underlying69 rfl (al _ _)) rfl ?_;exact ⟨⟨_,_,rfl⟩,HBz.out⟩
     | true=>
      go_wp2_with fail
      go_roundw
      case rel=>exact ⟨k+1,by omega,by go_num,hB.out⟩
      case measure=>simp [intOf];omega
    ·obtain ⟨w3,rfl⟩:∃x,x=wr:=⟨_,rfl⟩;have HB3:=aa hB.out;have c3:w3.cell? ⟨z,3,none⟩=some (.slice p.vr.A p.vr.N p.vr.C):=(HP.later HB3.out).cell 3;go_wp2_with fail
     clear c2 hB hlt c3;refine (ug w3 p.vr.A p.vr.N p.vr.C p.vrL ((HP0.vr.below (HB3.mono HB.size)).more (Nat.le_trans HB.size HB3.size)) hN2.2 hcap.2.1).mono ?_;rintro e waa ⟨⟨fna,fsa,rfl⟩,hbn⟩;have HBaa:=aa (ab HB3.out hbn);clear hbn;go_wp2_with (with_reducible refine ah 69 _ _ rfl ?_)
     refine ak.go ?_;obtain ⟨gfa,hgf⟩:∃q,waa.heap.size=q:=⟨_,rfl⟩;rw [hgf];refine an 69 _ _ rfl gfa hgf [.int .i64 fna,.string fsa] rfl rfl rfl rfl (al _ _) (ax _ _) ?_;intro wba hk hbn;have HKFa:=aa hk;have HBba:=aa (ab HBaa.out hbn);clear hk hbn hgf;go_wp2_with fail
     refine wp_region_held_drew (S:=fun wk=>Bk wk gfa 69 [.int .i64 fna,.string fsa]) (by kernel_rfl) (HKFa.later (ac wba _ 1)) (fun hHeld=>?_);obtain ⟨wca,hwc⟩:∃wx,wba.drew=wx:=⟨_,rfl⟩;have hb:Below wba.heap.size wba wca:=hwc▸ac wba wba.heap.size 1;rw [hwc] at hHeld ⊢;have HBca:=aa (ab HBba.out hb);have HKca:=aa (HKFa.later hb);clear hwc hb;refine tkR 0 ([.int .i64 fna,.string fsa]) (fun w hSw=>(Bk.range (pre:=[]) (post:=[]) (by simpa using hSw) rfl)) Tryz.underlying69 ((al _ _)) ?_;refine rd1 1 (fun K hK=>?_);go_simp
     (refine (ca wca).mono ?_;rintro e wda ⟨rfl,hbn⟩;have HBda:=aa (ab HBca.out hbn);have HKda:=aa (HKca.later hbn);clear hbn)
     refine so hK (HKda.out) (fun hHeld=>?_);clear hK K;obtain ⟨qfa,hqf⟩:=kj fna fsa;refine tk 2 ?_;clear hqf;refine wpAnyH_done rfl ?_ _;cases qfa with
     | false=>
      go_wp2_with (first | (with_reducible refine aj rfl 69 _ rfl gfa rfl [.int .i64 fna,.string fsa] 69 HKda.out _ Tryz.underlying69 rfl (al _ _) ?_) | (with_reducible refine ah 69 _ _ rfl ?_))
      refine ak.go ?_;refine ae rfl 69 _ _ rfl (z+1) 0 (.agg #[.int .i64 fna,.string fsa]) [.int .i64 fna,.string fsa] rfl rfl rfl 69 [] [.int .i64 0,.string ⟨#[]⟩] [] (by simpa using HK.later HBda.out) rfl rfl (al _ _) (ax _ _) ?_;intro wz hp;have hbk:Bk wz (z+1) 69 [.int .i64 fna,.string fsa]:=by have:=hp.bk;simpa using this
      have HBKz:=aa hbk;have HBz:=aa (ag (ab HB.out (HBda.out)) hp.only (ab HB.out (HBda.out)).size (by have:=HZ.out;omega));clear hp hbk;go_wp2_with fail
      refine bodyPost_ret (am rfl _ _ (z+1) 69 [.int .i64 fna,.string fsa] _ rfl HBKz.out Tryz.underlying69 rfl (al _ _)) rfl ?_;exact ⟨⟨_,_,rfl⟩,HBz.out⟩
     | true=>
      simp only [Bool.not_true];go_wp2_with (with_reducible refine aj rfl 26 _ rfl z rfl (pgC p) 26 (HP.out.later HBda.out) _ Tryz.underlying26 rfl (ct p) ?_)
      refine (qe wda p (HPG.later HBda.out)).mono ?_;rintro e wab ⟨⟨fnb,fsb,rfl⟩,hbn⟩;have HBab:=aa (ab HBda.out hbn);clear hbn;go_wp2_with (with_reducible refine ah 69 _ _ rfl ?_)
      refine ak.go ?_;obtain ⟨gfb,hgf⟩:∃q,wab.heap.size=q:=⟨_,rfl⟩;rw [hgf];refine an 69 _ _ rfl gfb hgf [.int .i64 fnb,.string fsb] rfl rfl rfl rfl (al _ _) (ax _ _) ?_;intro wbb hk hbn;have HKFb:=aa hk;have HBbb:=aa (ab HBab.out hbn);clear hk hbn hgf;go_wp2_with fail
      refine wp_region_held_drew (S:=fun wk=>Bk wk gfb 69 [.int .i64 fnb,.string fsb]) (by kernel_rfl) (HKFb.later (ac wbb _ 1)) (fun hHeld=>?_);obtain ⟨wcb,hwc⟩:∃wx,wbb.drew=wx:=⟨_,rfl⟩;have hb:Below wbb.heap.size wbb wcb:=hwc▸ac wbb wbb.heap.size 1;rw [hwc] at hHeld ⊢;have HBcb:=aa (ab HBbb.out hb);have HKcb:=aa (HKFb.later hb);clear hwc hb;refine tkR 0 ([.int .i64 fnb,.string fsb]) (fun w hSw=>(Bk.range (pre:=[]) (post:=[]) (by simpa using hSw) rfl)) Tryz.underlying69 ((al _ _)) ?_;refine rd1 1 (fun K hK=>?_);go_simp
      (refine (ca wcb).mono ?_;rintro e wdb ⟨rfl,hbn⟩;have HBdb:=aa (ab HBcb.out hbn);have HKdb:=aa (HKcb.later hbn);clear hbn)
      refine so hK (HKdb.out) (fun hHeld=>?_);clear hK K;obtain ⟨qfb,hqf⟩:=kj fnb fsb;refine tk 2 ?_;clear hqf;refine wpAnyH_done rfl ?_ _;cases qfb with
      | false=>
       go_wp2_with (first | (with_reducible refine aj rfl 69 _ rfl gfb rfl [.int .i64 fnb,.string fsb] 69 HKdb.out _ Tryz.underlying69 rfl (al _ _) ?_) | (with_reducible refine ah 69 _ _ rfl ?_))
       refine ak.go ?_;refine ae rfl 69 _ _ rfl (z+1) 0 (.agg #[.int .i64 fnb,.string fsb]) [.int .i64 fnb,.string fsb] rfl rfl rfl 69 [] [.int .i64 0,.string ⟨#[]⟩] [] (by simpa using HK.later HBdb.out) rfl rfl (al _ _) (ax _ _) ?_;intro wz hp;have hbk:Bk wz (z+1) 69 [.int .i64 fnb,.string fsb]:=by have:=hp.bk;simpa using this
       have HBKz:=aa hbk;have HBz:=aa (ag (ab HB.out (HBdb.out)) hp.only (ab HB.out (HBdb.out)).size (by have:=HZ.out;omega));clear hp hbk;go_wp2_with fail
       refine bodyPost_ret (am rfl _ _ (z+1) 69 [.int .i64 fnb,.string fsb] _ rfl HBKz.out Tryz.underlying69 rfl (al _ _)) rfl ?_;exact ⟨⟨_,_,rfl⟩,HBz.out⟩
      | true=>
       simp only [Bool.not_true];go_wp2_with (with_reducible refine aj rfl 26 _ rfl z rfl (pgC p) 26 (HP.out.later HBdb.out) _ Tryz.underlying26 rfl (ct p) ?_)
       refine (nx wdb p (HPG.later HBdb.out)).mono ?_;rintro e w4 ⟨rfl,hbn⟩;have HB4:=aa (ab HBdb.out hbn);clear hbn;by_cases hs:(1000:Int) < p.size
       ·have c0:w4.cell? ⟨z,0,none⟩=some (.string p.nm):=(HP.later HB4.out).cell 0;go_wp2_with (with_reducible refine ah 69 _ _ rfl ?_)
        refine ak.go ?_;refine ae rfl 69 _ _ rfl (z+1) 0 (.agg #[.int .i64 5,.string p.nm]) [.int .i64 5,.string p.nm] rfl rfl rfl 69 [] [.int .i64 0,.string ⟨#[]⟩] [] (by simpa using HK.later HB4.out) rfl rfl (al _ _) (ax _ _) ?_;intro wz hp;have hbk:Bk wz (z+1) 69 [.int .i64 5,.string p.nm]:=by have:=hp.bk;simpa using this
        have HBKz:=aa hbk;have HBz:=aa (ag (ab HB.out (HB4.out)) hp.only (ab HB.out (HB4.out)).size (by have:=HZ.out;omega));clear hp hbk;go_wp2_with fail
        refine bodyPost_ret (am rfl _ _ (z+1) 69 [.int .i64 5,.string p.nm] _ rfl HBKz.out Tryz.underlying69 rfl (al _ _)) rfl ?_;exact ⟨⟨_,_,rfl⟩,HBz.out⟩
       have d4:w4.cell? ⟨z,4,none⟩=some (.slice p.st.A p.st.N p.st.C):=(HP.later HB4.out).cell 4;have d5:w4.cell? ⟨z,5,none⟩=some (.slice p.tu.A p.tu.N p.tu.C):=(HP.later HB4.out).cell 5;have d7:w4.cell? ⟨z,7,none⟩=some (.slice p.pl.A p.pl.N p.pl.C):=(HP.later HB4.out).cell 7;have d9:w4.cell? ⟨z,9,none⟩=some (.slice p.qu.A p.qu.N p.qu.C):=(HP.later HB4.out).cell 9;have d10:w4.cell? ⟨z,10,none⟩=some (.slice p.py.A p.py.N p.py.C):=(HP.later HB4.out).cell 10;go_wp2_with (with_reducible refine a8 125 _ _ rfl ?_)
       refine ak.go ?_;refine ar rfl 125 5 _ rfl #[(0,p.st.v),(1,p.tu.v),(2,p.pl.v),(3,p.qu.v),(4,p.py.v)] ?_ 24 [p.st.v,p.tu.v,p.pl.v,p.qu.v,p.py.v] (fun w=>ue _ _ _ _ _ w) ?_
       ·simp [Act.eval,Act.put,Sln.v]
       intro qv w5 hq6 hb6 hbn;have HB5:=aa (ab HB4.out hbn);have HQ5:=aa hb6;clear hq6 hb6 hbn d4 d5 d7 d9 d10;go_wp2_with fail
       go_loopw [7,8,9,10] (fun i _ _ _ wr=>∃(k:Nat),k≤5∧i=.int .i64 k∧Hid (Below w1.heap.size w1 wr)∧Hid (Below w5.heap.size w5 wr)) (fun i _ _ _ _=>5 - (intOf i).toNat)
       case atStart=>exact ⟨0,by omega,rfl,HB5.out,Below.refl _ _⟩
       case round=>
        obtain ⟨k,hk,rfl,hB,hB5⟩:=hrel;obtain ⟨wq,rfl⟩:∃x,x=wr:=⟨_,rfl⟩;have HBq:=aa hB.out;have HBq5:=aa hB5.out;clear hB hB5;by_cases hlt:k < 5
        ·have hk5:(k:Int) < 5:=by omega
         go_wp2_with (first | (with_reducible refine aj rfl 26 _ rfl z rfl (pgC p) 26 (HP.out.later HBq.out) _ Tryz.underlying26 rfl (ct p) ?_) | ((with_reducible refine aS rfl 128 _ rfl #[(0,.agg (pgC p).toArray)] ?_ _ (wJ p _) ?_);focus (simp [Act.eval,Act.put];done)) | (with_reducible refine ah 128 _ _ rfl ?_))
         refine ak.go ?_;obtain ⟨g8,hg8⟩:∃q,wq.heap.size=q:=⟨_,rfl⟩;rw [hg8];refine an 128 _ _ rfl g8 hg8 (kwC p none 0 0) rfl rfl rfl rfl (dy _ _ _ _) (zZ _ _ _ _) ?_;intro w6 hk8 hbn;have HK6:=aa hk8;have HB6:=aa (ab HBq.out hbn);have HB65:=aa (ab HBq5.out hbn);have HG8:Hid (w1.heap.size≤g8∧w5.heap.size≤g8):=⟨by rw [←hg8];exact HBq.size,by rw [←hg8];exact HBq5.size⟩;clear hk8 hbn hg8;go_upto_block 4 with fail
         go_cut [] from 75 to 119 (fun wx=>∃(A:Option Addr) (n C:Nat) (l:List ByteArray),Hid (Bk wx g8 128 (kwC p A n C))∧Hid (wx.ownsRow w5.heap.size 9 1 (.slice A n C) n (l.map .string))∧Hid (n≤1048576)∧Hid (Below w5.heap.size w5 wx))
         case first=>
          go_wp2_with fail
          go_loopw [9] (fun j wr=>∃(jn n:Nat) (A:Option Addr) (C:Nat) (l:List ByteArray),jn≤p.pa.N∧j=.int .i64 jn∧Hid (Bk wr g8 128 (kwC p A n C))∧Hid (wr.ownsRow w5.heap.size 9 1 (.slice A n C) n (l.map .string))∧Hid (n≤jn)∧Hid (Below w5.heap.size w5 wr)) (fun j _=>p.pa.N - (intOf j).toNat)
          case atStart=>exact ⟨0,0,none,0,[],Nat.zero_le _,rfl,HK6.out,World.ownsRow_nil _ _ _ _,Nat.le_refl _,HB65.out⟩
          case round=>
           obtain ⟨jn,n,A,C,l,hj,rfl,hK,hO,hn,hB⟩:=hrel;have HBw:=aa (ab HB5.out hB.out);have c6:wr.cell? ⟨z,6,none⟩=some (.slice p.pa.A p.pa.N p.pa.C):=(HP.later HBw.out).cell 6;by_cases hj2:jn < p.pa.N;rotate_left
           ·go_wp2_with fail
            go_meet;exact ⟨A,n,C,l,hK.out,hO.out,(by have:=hn.out;show _≤_;omega),hB.out⟩
           by_cases hk2:k=2;rotate_left
           ·have hk2' : ¬(k:Int)=2:=by omega
            go_wp2_with fail
            go_meet;exact ⟨A,n,C,l,hK.out,hO.out,(by have:=hn.out;show _≤_;omega),hB.out⟩
           subst hk2;obtain ⟨b,o,x,hA,hb,hr,hx,hok⟩:=HP0.pa.spot hj2;have HR1:=aa hr;have HB0:Hid (b < w1.heap.size):=Nat.lt_of_lt_of_le hb HB.size;have HA:=aa hA;have hjN:(jn:Int) < p.pa.N:=by omega
           go_wp2_with fail
           clear hr hx hok hA hb c6;have HSL:Hid (∀wk,Bk wk g8 128 (kwC p A n C)→Below w1.heap.size w1 wk→(wk.cell? ⟨g8,11,none⟩=some (.slice A n C)∧wk.cell? ⟨z,6,none⟩=some (.slice (some ⟨b,o,none⟩) p.pa.N p.pa.C)∧wk.cell? ⟨b,o+jn*4,none⟩=some (.string x.nm))):=fun wk hk hb=>⟨hk.cell 11,by rw [←HA.out];exact (HP.later hb).cell 6,eo HR1.out hb HB0.out 0 _ rfl⟩;refine cJ [(11,fun wk=>wk.cell? ⟨g8,11,none⟩=some (.slice A n C)∧wk.cell? ⟨z,6,none⟩=some (.slice (some ⟨b,o,none⟩) p.pa.N p.pa.C)∧wk.cell? ⟨b,o+jn*4,none⟩=some (.string x.nm))] (by kernel_rfl) ⟨fun _=>HSL.out _ (hK.out.later (ac wr _ 1)) (ab HBw.out (ac wr wr.heap.size 1)),trivial⟩ (fun hHeld=>?_);obtain ⟨w7,hw7⟩:∃wa,wr.drew=wa:=⟨_,rfl⟩;have hb7:Below wr.heap.size wr w7:=hw7▸ac wr wr.heap.size 1;rw [hw7] at hHeld ⊢;have HB7:=aa (ab hB.out hb7);have HK7:=aa (hK.out.later hb7);have HO7:=aa (az hO.out hb7);clear hw7 hb7;refine tl 0 (fun hHeld=>?_);refine tl 2 (fun hHeld=>?_);refine tl 4 (fun hHeld=>?_);refine tlv 1 0 rfl rfl (fun w hSw=>by have hcell:=hSw.1;clear hSw;go_simp;try with_reducible rfl) (fun hHeld=>?_);refine tlv 3 0 rfl rfl (fun w hSw=>by have hcell:=hSw.2.1;clear hSw;go_simp;try with_reducible rfl) (fun hHeld=>?_);refine tl 5 (fun hHeld=>?_);refine tl 6 (fun hHeld=>?_);refine tlv 7 0 rfl rfl (fun w hSw=>by have hcell:=hSw.2.2;clear hSw;go_simp;try with_reducible rfl) (fun hHeld=>?_);refine bE (rs:=[8]) (by kernel_rfl) (by simp) ?_;refine aH.cons rfl (fun Kx hX=>?_) aH.nil;rw [if_pos (by rfl)];refine cL 126 1 _ rfl #[(0,.string x.nm)] (by simp [Act.eval,Act.put]) _ _ (km x.nm w7) ?_;obtain ⟨q9,hq9⟩:∃q,w7.heap.size=q:=⟨_,rfl⟩;obtain ⟨w8,hw8⟩:∃wx,w7.alloc (.cells #[.string x.nm] 9)=wx:=⟨_,rfl⟩;have hbn:Below w7.heap.size w7 w8:=hw8▸ai w7 _;have HQ8:Hid (Bk w8 q9 9 [.string x.nm]):=by show Bk _ _ _ _;rw [←hw8,←hq9];exact Bk.new' _ _ _ rfl
           have HB8:=aa (ab HB7.out hbn);have HK8:=aa (HK7.later hbn);have HO8:=aa (az HO7.out hbn);rw [hw8,hq9];clear hw8 hq9 hbn;refine hX.out _ _ ⟨fun _=>HSL.out w8 HK8.out (ab HB5.out HB8.out),trivial⟩ (fun hHeld=>?_);clear hX Kx;try simp only [Act.put,q1,q2,q3,q4,q5,q6]
           refine bE (rs:=[9]) (by kernel_rfl) (by simp) ?_;refine aH.cons rfl (fun Kx hX=>?_) aH.nil;rw [if_pos (by rfl)];obtain ⟨i0,hif,hif0,hif1,hif2⟩:=info_parts Tryz.infoSt;have hnb:n≤1048576:=by have:=hn.out;omega
           refine fO _ (.tmp 93) (.tmp 100) 126 rfl w5.heap.size 9 i0 _ _ _ Tryz.underlying126 hif hif0 hif1 hif2 rfl (by decide) (.slice A n C) n (l.map .string) rfl HO8.out _ _ _ _ _ rfl (show Sl w8 w8.heap.size 1 (some ⟨q9,0,none⟩) 1 ([x.nm].map Value.string) from HQ8.sl (n:=1) rfl (by omega) (fun _ _ h=>h)) (f6 [x.nm]) (by unfold maxLen;omega) (by omega) HB8.size ?_;intro v9 w9 hown hg hat;have hg' : w8.grownBy w9 (Value.slice A n C).ownBlock:=hg;have HB9:=aa (aB HB8.out HO8.out hg' (Nat.le_refl _) HB8.size);have HK9:=aa (HK8.grown hg' (Ne.symm (aP HO8.out HK8.out (by decide))));have HO9:Hid (w9.ownsRow w5.heap.size 9 1 v9 (n+1) ((l ++ [x.nm]).map .string)):=by show World.ownsRow _ _ _ _ _ _ _;rw [List.map_append];exact hown
           clear hown hg hg' hat hif hif0 hif1 hif2 i0;refine hX.out _ _ ⟨fun _=>HSL.out w9 HK9.out (ab HB5.out HB9.out),trivial⟩ (fun hHeld=>?_);clear hX Kx;try simp only [Act.put,q1,q2,q3,q4,q5,q6]
           refine tl 10 (fun hHeld=>?_);obtain ⟨A9,C9,rfl⟩:=aI HO9.out;refine qi 11 g8 11 (.slice A9 (n+1) C9) [.slice A9 (n+1) C9] 128 (pgC p) [.slice A n C] [] (by simpa [kwC] using HK9.out) (fun _=>⟨fun h=>jT h (by kernel_rfl),trivial⟩) (by intro v hv;simp at hv;subst hv;rfl) ?_;intro wz hp;try simp only [Act.put,q1,q2,q3,q4,q5,q6]
           have HKz:Hid (Bk wz g8 128 (kwC p A9 (n+1) C9)):=by show Bk _ _ _ _;have:=hp.bk;simpa [kwC] using this
           have HOz:=aa (bx HO9.out hp.only (aP HO9.out HK9.out (by decide)));have HBz:=aa (ag HB9.out hp.only HB9.size HG8.out.2);clear hp;go_wp2_with fail
           go_roundw
           case rel=>exact ⟨jn+1,n+1,A9,C9,l ++ [x.nm],by omega,by go_num,HKz.out,HOz.out,(by have:=hn.out;show _≤_;omega),HBz.out⟩
           case measure=>simp [intOf];omega
         obtain ⟨A,n,C,l,HK7,HO7,HN7,HB7⟩:=hcut;refine ‹∀(a:Act) (w:World),Code.wp _ _ _ a w→_› _ _ ?_;obtain ⟨w7,rfl⟩:∃x,x=wc:=⟨_,rfl⟩;go_upto_if 104 with fail
         go_cut [] from 75 to 119 (fun wx=>∃(A:Option Addr) (n C:Nat) (l:List ByteArray),Hid (Bk wx g8 128 (kwC p A n C))∧Hid (Sl wx wx.heap.size 1 A n (l.map .string))∧Hid (n≤C)∧Hid (n≤1048576)∧Hid (Below w5.heap.size w5 wx))
         case first=>
          by_cases hk3:k=3
          ·subst hk3;have c8:w7.cell? ⟨z,8,none⟩=some (.string p.si):=(HP.later (ab HB5.out HB7.out)).cell 8;go_wp2_with (with_reducible refine a8 126 _ _ rfl ?_)
           refine ak.go ?_;refine ar rfl 126 1 _ rfl #[(0,.string p.si)] ?_ 9 [.string p.si] (fun w=>km _ w) ?_
           ·simp [Act.eval,Act.put]
           intro qs w8 hq7 hb7 hbn;have HQ8:=aa hb7;have HB8:=aa (ab HB7.out hbn);have HK8:=aa (HK7.later hbn);have hgq:g8≠qs:=by have:=HK7.lt;omega
           clear hq7 hb7 hbn c8;go_wp2_with (with_reducible refine ah 126 _ _ rfl ?_)
           refine ak.go ?_;refine ae rfl 126 _ _ rfl g8 11 (.slice (some ⟨qs,0,none⟩) 1 1) [.slice (some ⟨qs,0,none⟩) 1 1] rfl rfl rfl 128 (pgC p) [.slice A n C] [] (by simpa [kwC] using HK8.out) rfl rfl (by kernel_rfl) (by intro v hv;simp at hv;subst hv;rfl) ?_;intro w9 hp;have HK9:Hid (Bk w9 g8 128 (kwC p (some ⟨qs,0,none⟩) 1 1)):=by show Bk _ _ _ _;have:=hp.bk;simpa [kwC] using this
           have HQ9:=aa (HQ8.grown hp.only (fun e=>by injection e with e;exact hgq e.symm));have HB9:=aa (ag HB8.out hp.only HB8.size HG8.out.2);clear hp;go_wp2_with fail
           go_meet;exact ⟨some ⟨qs,0,none⟩,1,1,[p.si],HK9.out,HQ9.sl (n:=1) rfl (by omega) (fun _ _ h=>h),Nat.le_refl _,(by show 1≤_;omega),HB9.out⟩
          ·have hk3' : ¬(k:Int)=3:=by omega
           go_wp2_with fail
           go_meet;exact ⟨A,n,C,l,HK7.out,Sl.of_own HO7.out,kn HO7.out,HN7.out,HB7.out⟩
         obtain ⟨A8,n8,C8,l8,HK8,HS8,HC8,HN8,HB8⟩:=hcut;refine ‹∀(a:Act) (w:World),Code.wp _ _ _ a w→_› _ _ ?_;obtain ⟨w8,rfl⟩:∃x,x=wc:=⟨_,rfl⟩;have HBw:=aa (ab HB5.out HB8.out);have HC:Hid (∀wk,Below w8.heap.size w8 wk→Calls Tryz.prog 62 #[.agg (kwC p A8 n8 C8).toArray,.slice (ptS p k).A (ptS p k).N (ptS p k).C,.int .i64 k,.int .i64 0,.bool true] wk fun e w'=>iJ e∧Below wk.heap.size wk w'):=fun wk hb=>by have hpi:=sM (HPG.later (ab HBw.out hb)) (k:=k) (by omega);exact rX (ptL p k) wk p A8 n8 C8 l8 _ _ _ k 0 true ⟨HPG.later (ab HBw.out hb),HS8.later hb,HC8.out⟩ (by have:=HN8.out;have:=hpi.2;omega) hpi.1 (by have:=hpi.2;omega) (by omega)
         have HS:Hid (∀wk,Below w8.heap.size w8 wk→(Bk wk g8 128 (kwC p A8 n8 C8)∧wk.cell? ⟨qv,k,none⟩=some (.slice (ptS p k).A (ptS p k).N (ptS p k).C))):=fun wk hb=>⟨HK8.later hb,by rw [(HQ5.later (ab HB8.out hb)).cell k];exact AM p (by omega)⟩;go_wp2_with fail
         go_cut [10] from 75 to 119 (fun p7 wx=>∃(gf:Nat) (fn:Int) (fs:ByteArray),p7=.pointer (some ⟨gf,0,none⟩)∧Hid (Bk wx gf 69 [.int .i64 fn,.string fs])∧Hid (Below w8.heap.size w8 wx))
         case first=>
          refine wp_region_held_drew (S:=fun wk=>Bk wk g8 128 (kwC p A8 n8 C8)∧wk.cell? ⟨qv,k,none⟩=some (.slice (ptS p k).A (ptS p k).N (ptS p k).C)) (by kernel_rfl) (HS.out _ (ac w8 _ 1)) (fun hHeld=>?_);obtain ⟨w9,hw9⟩:∃wa,w8.drew=wa:=⟨_,rfl⟩;have hb9:Below w8.heap.size w8 w9:=hw9▸ac w8 w8.heap.size 1;rw [hw9] at hHeld ⊢;have HB9:=aa hb9;clear hw9 hb9;refine tkR 0 (kwC p A8 n8 C8) (fun w hSw=>(Bk.range (pre:=[]) (post:=[]) (by simpa using hSw.1) rfl)) Tryz.underlying128 ((dy _ _ _ _)) ?_;refine tk 1 ?_;refine tk 2 ?_;refine tk 5 ?_;refine tk 3 ?_;refine tkv 4 rfl (fun w hSw=>by have hcell:=hSw.2;clear hSw;go_simp;try with_reducible rfl) ?_;refine wpAnyH_ready (rs:=[6,7]) (by kernel_rfl) (by simp) ?_;refine AllReadyH.cons rfl (fun Kx hK=>?_) (AllReadyH.cons rfl (fun Kx hK=>?_) AllReadyH.nil)
          ·go_simp;refine (HC.out w9 HB9.out).mono ?_;rintro e wa ⟨⟨fn,fs,rfl⟩,hbn⟩;have HBa:=aa (ab HB9.out hbn);clear hbn;refine so hK (HS.out wa HBa.out) (fun hHeld=>?_);clear hK Kx;refine wpAnyH_ready (rs:=[7]) (by kernel_rfl) (by simp) ?_;refine AllReadyH.cons rfl (fun Kx hK=>?_) AllReadyH.nil;go_simp;obtain ⟨gf,hgf⟩:∃q,wa.heap.size=q:=⟨_,rfl⟩;obtain ⟨wb,hwb⟩:∃wx,wa.alloc (.cells #[.int .i64 0,.string ⟨#[]⟩] 69)=wx:=⟨_,rfl⟩;have hbn:Below wa.heap.size wa wb:=hwb▸ai wa _;have HKFb:Hid (Bk wb gf 69 [.int .i64 0,.string ⟨#[]⟩]):=by show Bk _ _ _ _;rw [←hwb,←hgf];exact Bk.new' _ _ _ rfl
           have HGF:Hid (w8.heap.size≤gf):=by have:=HBa.size;show _≤_;omega
           have HBb:=aa (ab HBa.out hbn);rw [hwb,hgf];clear hwb hgf hbn;refine so hK (HS.out wb HBb.out) (fun hHeld=>?_);clear hK Kx;refine rdw 8 (fun K hK=>?_);refine au _ _ _ rfl gf 0 (.agg #[.int .i64 fn,.string fs]) [.int .i64 fn,.string fs] rfl rfl rfl _ [] [.int .i64 0,.string ⟨#[]⟩] [] (by simpa using HKFb.out) rfl rfl (al _ _) (ax _ _) ?_;intro wz hp;have hbk:Bk wz gf 69 [.int .i64 fn,.string fs]:=by have:=hp.bk;simpa using this
           have HKz:=aa hbk;have HBz:=aa (ag HBb.out hp.only HBb.size HGF.out);clear hp hbk;refine so hK (HS.out wz HBz.out) (fun hHeld=>?_);clear hK K;refine wpAnyH_done rfl ?_ _;go_wp2_with fail
           go_meet;exact ⟨gf,fn,fs,rfl,HKz.out,HBz.out⟩
          ·
           go_simp;obtain ⟨gf,hgf⟩:∃q,w9.heap.size=q:=⟨_,rfl⟩;obtain ⟨wb,hwb⟩:∃wx,w9.alloc (.cells #[.int .i64 0,.string ⟨#[]⟩] 69)=wx:=⟨_,rfl⟩;have hbn:Below w9.heap.size w9 wb:=hwb▸ai w9 _;have HKFb:Hid (Bk wb gf 69 [.int .i64 0,.string ⟨#[]⟩]):=by show Bk _ _ _ _;rw [←hwb,←hgf];exact Bk.new' _ _ _ rfl
           have HGF:Hid (w8.heap.size≤gf):=by have:=HB9.size;show _≤_;omega
           have HBb:=aa (ab HB9.out hbn);rw [hwb,hgf];clear hwb hgf hbn;refine so hK (HS.out wb HBb.out) (fun hHeld=>?_);clear hK Kx;refine wpAnyH_ready (rs:=[6]) (by kernel_rfl) (by simp) ?_;refine AllReadyH.cons rfl (fun Kx hK=>?_) AllReadyH.nil;go_simp;refine (HC.out wb HBb.out).mono ?_;rintro e wd ⟨⟨fn,fs,rfl⟩,hbn⟩;have HBd:=aa (ab HBb.out hbn);have HKFd:=aa (HKFb.later hbn);clear hbn;refine so hK (HS.out wd HBd.out) (fun hHeld=>?_);clear hK Kx;refine rdw 8 (fun K hK=>?_);refine au _ _ _ rfl gf 0 (.agg #[.int .i64 fn,.string fs]) [.int .i64 fn,.string fs] rfl rfl rfl _ [] [.int .i64 0,.string ⟨#[]⟩] [] (by simpa using HKFd.out) rfl rfl (al _ _) (ax _ _) ?_;intro wz hp;have hbk:Bk wz gf 69 [.int .i64 fn,.string fs]:=by have:=hp.bk;simpa using this
           have HKz:=aa hbk;have HBz:=aa (ag HBd.out hp.only HBd.size HGF.out);clear hp hbk;refine so hK (HS.out wz HBz.out) (fun hHeld=>?_);clear hK K;refine wpAnyH_done rfl ?_ _;go_wp2_with fail
           go_meet;exact ⟨gf,fn,fs,rfl,HKz.out,HBz.out⟩
         obtain ⟨gfq,fnq,fsq,rfl,HKFq,HBb0⟩:=hcut;obtain ⟨wbq,rfl⟩:∃x,x=wc:=⟨_,rfl⟩;have HBbq:=aa (ab HBw.out HBb0.out);have HBb5:=aa (ab HB8.out HBb0.out);refine ‹∀(a:Act) (w:World),Code.wp _ _ _ a w→_› _ _ ?_;go_wp2_with fail
         refine wp_region_held_drew (S:=fun wk=>Bk wk gfq 69 [.int .i64 fnq,.string fsq]) (by kernel_rfl) (HKFq.later (ac wbq _ 1)) (fun hHeld=>?_);obtain ⟨wcq,hwc⟩:∃wx,wbq.drew=wx:=⟨_,rfl⟩;have hb:Below wbq.heap.size wbq wcq:=hwc▸ac wbq wbq.heap.size 1;rw [hwc] at hHeld ⊢;have HXcq:=aa hb;have HBcq:=aa (ab HBbq.out hb);have HKcq:=aa (HKFq.later hb);clear hwc hb;refine tkR 0 ([.int .i64 fnq,.string fsq]) (fun w hSw=>(Bk.range (pre:=[]) (post:=[]) (by simpa using hSw) rfl)) Tryz.underlying69 ((al _ _)) ?_;refine rd1 1 (fun K hK=>?_);go_simp
         (refine (ca wcq).mono ?_;rintro e wdq ⟨rfl,hbn⟩;have HXdq:=aa (ab HXcq.out hbn);have HBdq:=aa (ab HBcq.out hbn);have HKdq:=aa (HKcq.later hbn);clear hbn)
         refine so hK (HKdq.out) (fun hHeld=>?_);clear hK K;obtain ⟨qfq,hqf⟩:=kj fnq fsq;refine tk 2 ?_;clear hqf;refine wpAnyH_done rfl ?_ _;cases qfq with
         | false=>
          go_wp2_with (first | (with_reducible refine aj rfl 69 _ rfl gfq rfl [.int .i64 fnq,.string fsq] 69 HKdq.out _ Tryz.underlying69 rfl (al _ _) ?_) | (with_reducible refine ah 69 _ _ rfl ?_))
          refine ak.go ?_;refine ae rfl 69 _ _ rfl (z+1) 0 (.agg #[.int .i64 fnq,.string fsq]) [.int .i64 fnq,.string fsq] rfl rfl rfl 69 [] [.int .i64 0,.string ⟨#[]⟩] [] (by simpa using HK.later HBdq.out) rfl rfl (al _ _) (ax _ _) ?_;intro wz hp;have hbk:Bk wz (z+1) 69 [.int .i64 fnq,.string fsq]:=by have:=hp.bk;simpa using this
          have HBKz:=aa hbk;have HBz:=aa (ag (ab HB.out (HBdq.out)) hp.only (ab HB.out (HBdq.out)).size (by have:=HZ.out;omega));clear hp hbk;go_wp2_with fail
          refine bodyPost_ret (am rfl _ _ (z+1) 69 [.int .i64 fnq,.string fsq] _ rfl HBKz.out Tryz.underlying69 rfl (al _ _)) rfl ?_;exact ⟨⟨_,_,rfl⟩,HBz.out⟩
         | true=>
          simp only [Bool.not_true];go_wp2_with fail
          go_roundw
          case rel=>exact ⟨k+1,by omega,by go_num,HBdq.out,ab HBb5.out HXdq.out⟩
          case measure=>simp [intOf];omega
        ·have c5:wq.cell? ⟨z,5,none⟩=some (.slice p.tu.A p.tu.N p.tu.C):=(HP.later HBq.out).cell 5;go_wp2_with fail
         refine (un p.tuL wq p.tu.A p.tu.N p.tu.C (HPG.later HBq.out).tu (by unfold PgT.size at hfew;omega)).mono ?_;rintro e w6 ⟨⟨y6,rfl⟩,hbn⟩;have HB6:=aa (ab HBq.out hbn);clear hbn c5;cases y6 with
         | false=>
          go_wp2_with (with_reducible refine ah 69 _ _ rfl ?_)
          refine ak.go ?_;refine ae rfl 69 _ _ rfl (z+1) 0 (.agg #[.int .i64 4,.string ⟨#[116,117,114,110]⟩]) [.int .i64 4,.string ⟨#[116,117,114,110]⟩] rfl rfl rfl 69 [] [.int .i64 0,.string ⟨#[]⟩] [] (by simpa using HK.later HB6.out) rfl rfl (al _ _) (ax _ _) ?_;intro wz hp;have hbk:Bk wz (z+1) 69 [.int .i64 4,.string ⟨#[116,117,114,110]⟩]:=by have:=hp.bk;simpa using this
          have HBKz:=aa hbk;have HBz:=aa (ag (ab HB.out (HB6.out)) hp.only (ab HB.out (HB6.out)).size (by have:=HZ.out;omega));clear hp hbk;go_wp2_with fail
          refine bodyPost_ret (am rfl _ _ (z+1) 69 [.int .i64 4,.string ⟨#[116,117,114,110]⟩] _ rfl HBKz.out Tryz.underlying69 rfl (al _ _)) rfl ?_;exact ⟨⟨_,_,rfl⟩,HBz.out⟩
         | true=>
          have HPY:=aa (HPG.later HB6.out).py;obtain ⟨M,hM⟩:∃M,p.py.N=M:=⟨_,rfl⟩;have c10:w6.cell? ⟨z,10,none⟩=some (.slice p.py.A M p.py.C):=by rw [←hM];exact (HP.later HB6.out).cell 10
          rw [hM] at HPY;have hMs:M≤1048576:=by have:=HPY.len;have:=Ss.len_size p.pyL;unfold PgT.size at hfew;omega
          clear hM;cases M with
          | zero=>
           go_wp2_with (with_reducible refine ah 69 _ _ rfl ?_)
           refine ak.go ?_;refine ae rfl 69 _ _ rfl (z+1) 0 (.agg #[.int .i64 4,.string ⟨#[112,97,121]⟩]) [.int .i64 4,.string ⟨#[112,97,121]⟩] rfl rfl rfl 69 [] [.int .i64 0,.string ⟨#[]⟩] [] (by simpa using HK.later HB6.out) rfl rfl (al _ _) (ax _ _) ?_;intro wz hp;have hbk:Bk wz (z+1) 69 [.int .i64 4,.string ⟨#[112,97,121]⟩]:=by have:=hp.bk;simpa using this
           have HBKz:=aa hbk;have HBz:=aa (ag (ab HB.out (HB6.out)) hp.only (ab HB.out (HB6.out)).size (by have:=HZ.out;omega));clear hp hbk;go_wp2_with fail
           refine bodyPost_ret (am rfl _ _ (z+1) 69 [.int .i64 4,.string ⟨#[112,97,121]⟩] _ rfl HBKz.out Tryz.underlying69 rfl (al _ _)) rfl ?_;exact ⟨⟨_,_,rfl⟩,HBz.out⟩
          | succ m=>
           obtain ⟨b,o,kd,nm,A3,N3,C3,E,lo,hi,A4,N4,C4,L,A5,N5,C5,M,rest,hA,hb,hr,e1,e2,hS,hsz3⟩:=HPY.spot (k:=m) (by omega);have ck:w6.cell? ⟨b,o+m*7,none⟩=some (.int .i64 kd):=hr 0 _ rfl;rw [hA] at c10;have hm0:¬((m:Int)+1=0):=by omega
           have hmm:(m:Int) < (m:Int)+1:=by omega
           clear hr e1 e2 hS hb hA;by_cases h9:kd=9
           ·subst h9;go_wp2_with fail
            refine (ca _).mono ?_;rintro e wf ⟨rfl,hbn⟩;have HBf:=aa (ab HB6.out hbn);clear hbn;go_wp2_with (with_reducible refine ah 69 _ _ rfl ?_)
            refine ak.go ?_;refine ae rfl 69 _ _ rfl (z+1) 0 (.agg #[.int .i64 0,.string ⟨#[]⟩]) [.int .i64 0,.string ⟨#[]⟩] rfl rfl rfl 69 [] [.int .i64 0,.string ⟨#[]⟩] [] (by simpa using HK.later HBf.out) rfl rfl (al _ _) (ax _ _) ?_;intro wz hp;have hbk:Bk wz (z+1) 69 [.int .i64 0,.string ⟨#[]⟩]:=by have:=hp.bk;simpa using this
            have HBKz:=aa hbk;have HBz:=aa (ag (ab HB.out (HBf.out)) hp.only (ab HB.out (HBf.out)).size (by have:=HZ.out;omega));clear hp hbk;go_wp2_with fail
            refine bodyPost_ret (am rfl _ _ (z+1) 69 [.int .i64 0,.string ⟨#[]⟩] _ rfl HBKz.out Tryz.underlying69 rfl (al _ _)) rfl ?_;exact ⟨⟨_,_,rfl⟩,HBz.out⟩
           ·
            go_wp2_with (with_reducible refine ah 69 _ _ rfl ?_)
            refine ak.go ?_;refine ae rfl 69 _ _ rfl (z+1) 0 (.agg #[.int .i64 4,.string ⟨#[112,97,121]⟩]) [.int .i64 4,.string ⟨#[112,97,121]⟩] rfl rfl rfl 69 [] [.int .i64 0,.string ⟨#[]⟩] [] (by simpa using HK.later HB6.out) rfl rfl (al _ _) (ax _ _) ?_;intro wz hp;have hbk:Bk wz (z+1) 69 [.int .i64 4,.string ⟨#[112,97,121]⟩]:=by have:=hp.bk;simpa using this
            have HBKz:=aa hbk;have HBz:=aa (ag (ab HB.out (HB6.out)) hp.only (ab HB.out (HB6.out)).size (by have:=HZ.out;omega));clear hp hbk;go_wp2_with fail
            refine bodyPost_ret (am rfl _ _ (z+1) 69 [.int .i64 4,.string ⟨#[112,97,121]⟩] _ rfl HBKz.out Tryz.underlying69 rfl (al _ _)) rfl ?_;exact ⟨⟨_,_,rfl⟩,HBz.out⟩
end Go.Proofs.YtllbdpdnpaocnaaGreatDoor
