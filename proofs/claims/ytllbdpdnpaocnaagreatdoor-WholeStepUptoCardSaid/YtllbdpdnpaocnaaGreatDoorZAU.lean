/- Part of the proof of WholeStep. -/
import Derived.Test.YtllbdpdnpaocnaaGreatDoorZAT
namespace Go.Proofs.YtllbdpdnpaocnaaGreatDoor
set_option linter.unusedSimpArgs false
set_option linter.unusedVariables false
set_option linter.constructorNameAsVariable false
open Go.RowKit Go.Maps
set_option maxRecDepth 20000 in
set_option maxHeartbeats 2000000 in
theorem qe (w:World) (p:PgT) (h:cI w w.heap.size p):Calls Tryz.prog 61 #[.agg (pgC p).toArray] w fun e w'=>iJ e∧Below w.heap.size w w':=by
 obtain ⟨z,hz⟩:∃z,w.heap.size=z:=⟨_,rfl⟩;obtain ⟨w1,hw1⟩:∃w1,(w.alloc (.cells (pgC p).toArray 26)).alloc (.cells #[.int .i64 0,.string ⟨#[]⟩] 69)=w1:=⟨_,rfl⟩;have hp:Bk w1 z 26 (pgC p):=hw1▸(Bk.at_ w _ _ hz rfl).alloc _;have hk:Bk w1 (z+1) 69 [.int .i64 0,.string ⟨#[]⟩]:=hw1▸Bk.at_ _ _ _ (by simp [hz]) rfl;have hb:Below w.heap.size w w1:=hw1▸(ai w _).alloc (by simp) _;have HW:=aa hw1;have HB:=aa hb;have HV:=aa (h.pa.below hb);have HVR:=aa (h.vr.below hb);have HK:=aa hk;have HZ:=aa hz;have HP:=aa hp;have HPG:=aa (h.later hb);have hN2:p.pa.N≤1048576∧p.vr.N≤1048576:=by have:=h.few;have:=h.pa.len;have:=h.vr.len;unfold PgT.size at *; omega
 have hNC:p.pa.N≤p.pa.C:=h.cap.2.2.2.2.1;have hsi:=h.si;have hbf:=fK;clear hk hw1 h hb hz hp;go_enter Tryz.func61,Tryz.ntmps61;go_upto_region 1 with fail
 rw [HW.out,HZ.out];have c6:w1.cell? ⟨z,6,none⟩=some (.slice p.pa.A p.pa.N p.pa.C):=HP.cell 6;by_cases h4:(4:Int) < p.pa.N
 ·
  go_wp2_with (with_reducible refine ah 69 _ _ rfl ?_)
  refine ak.go ?_;refine ae rfl 69 _ _ rfl (z+1) 0 (.agg #[.int .i64 8,.string ⟨#[112,108,97,121]⟩]) [.int .i64 8,.string ⟨#[112,108,97,121]⟩] rfl rfl rfl 69 [] [.int .i64 0,.string ⟨#[]⟩] [] (by simpa using HK.out) rfl rfl (al _ _) (ax _ _) ?_;intro wz hp;have hbk:Bk wz (z+1) 69 [.int .i64 8,.string ⟨#[112,108,97,121]⟩]:=by have:=hp.bk;simpa using this
  have HBKz:=aa hbk;have HBz:=aa (ag (ab HB.out ((Below.refl _ _))) hp.only (ab HB.out ((Below.refl _ _))).size (by have:=HZ.out;omega));clear hp hbk;go_wp2_with fail
  refine bodyPost_ret (am rfl _ _ (z+1) 69 [.int .i64 8,.string ⟨#[112,108,97,121]⟩] _ rfl HBKz.out Tryz.underlying69 rfl (al _ _)) rfl ?_;exact ⟨⟨_,_,rfl⟩,HBz.out⟩
 ·go_wp2_with fail
  clear c6;go_loopw [3,4] (fun i _ wr=>∃(k:Nat),k≤p.pa.N∧i=.int .i64 k∧Hid (Below w1.heap.size w1 wr)) (fun i _ _=>p.pa.N - (intOf i).toNat)
  case atStart=>exact ⟨0,Nat.zero_le _,rfl,Below.refl _ _⟩
  case round=>
   obtain ⟨k,hk,rfl,hB⟩:=hrel;have c6:wr.cell? ⟨z,6,none⟩=some (.slice p.pa.A p.pa.N p.pa.C):=(HP.later hB.out).cell 6;by_cases hlt:k < p.pa.N
   ·obtain ⟨b,o,x,hA,hb,hr,hx,hok⟩:=(HV.below (hB.out.mono HB.size)).spot hlt;have HR:=aa hr;have hnm:=hok.nm;have hkN:(k:Int) < p.pa.N:=by omega
    have HA:=aa hA;rw [hA] at c6;clear hr hx hok hA;go_wp2_with (first | (with_reducible refine wpList_load_mid rfl 81 _ rfl b (o+k*4) rfl (vaC x) _ HR.out Tryz.underlying81 rfl (bQ x) ?_) | (with_reducible refine ah 81 _ _ rfl ?_))
    refine ak.go ?_;obtain ⟨g3,hg3⟩:∃q,wr.heap.size=q:=⟨_,rfl⟩;rw [hg3];refine an 81 _ _ rfl g3 hg3 (vaC x) rfl rfl rfl rfl (bQ x) (bw x) ?_;intro w3 hk hbn;have HK3:=aa hk;have HB3:=aa hbn;clear hk hbn;have e0:w3.cell? ⟨g3,0,none⟩=some (.string x.nm):=HK3.cell 0;go_wp2_with fail
    refine (fu x.nm hnm w3).mono ?_;rintro e w4 ⟨⟨y4,rfl⟩,hbn⟩;have HB4:=aa (ab hB.out (ab HB3.out hbn));have HK4:=aa (HK3.later hbn);clear hbn e0 c6;cases y4 with
    | false=>
     have e0:w4.cell? ⟨g3,0,none⟩=some (.string x.nm):=HK4.cell 0;go_wp2_with (with_reducible refine ah 69 _ _ rfl ?_)
     refine ak.go ?_;refine ae rfl 69 _ _ rfl (z+1) 0 (.agg #[.int .i64 6,.string x.nm]) [.int .i64 6,.string x.nm] rfl rfl rfl 69 [] [.int .i64 0,.string ⟨#[]⟩] [] (by simpa using HK.later HB4.out) rfl rfl (al _ _) (ax _ _) ?_;intro wz hp;have hbk:Bk wz (z+1) 69 [.int .i64 6,.string x.nm]:=by have:=hp.bk;simpa using this
     have HBKz:=aa hbk;have HBz:=aa (ag (ab HB.out (HB4.out)) hp.only (ab HB.out (HB4.out)).size (by have:=HZ.out;omega));clear hp hbk;go_wp2_with fail
     refine bodyPost_ret (am rfl _ _ (z+1) 69 [.int .i64 6,.string x.nm] _ rfl HBKz.out Tryz.underlying69 rfl (al _ _)) rfl ?_;exact ⟨⟨_,_,rfl⟩,HBz.out⟩
    | true=>
     go_wp2_with fail
     refine wp_region_held_drew (S:=fun wk=>wk.cell? ⟨g3,0,none⟩=some (.string x.nm)∧wk.cell? ⟨z,3,none⟩=some (.slice p.vr.A p.vr.N p.vr.C)∧wk.cell? ⟨z,6,none⟩=some (.slice p.pa.A p.pa.N p.pa.C)) (by kernel_rfl)
      ⟨(HK4.later (ac w4 _ 1)).cell 0,(HP.later (ab HB4.out (ac w4 _ 1))).cell 3,(HP.later (ab HB4.out (ac w4 _ 1))).cell 6⟩ (fun hHeld=>?_)
     obtain ⟨w5,hw5⟩:∃wa,w4.drew=wa:=⟨_,rfl⟩;have hb5:Below w4.heap.size w4 w5:=hw5▸ac w4 w4.heap.size 1;rw [hw5] at hHeld ⊢;have HB5:=aa (ab HB4.out hb5);have HK5:=aa (HK4.later hb5);clear hw5 hb5;have hkC:(k:Int)≤p.pa.C:=by omega
     have hS5:Hid (w5.cell? ⟨g3,0,none⟩=some (.string x.nm)∧w5.cell? ⟨z,3,none⟩=some (.slice p.vr.A p.vr.N p.vr.C)∧w5.cell? ⟨z,6,none⟩=some (.slice p.pa.A p.pa.N p.pa.C)):=hHeld;refine tk 0 ?_;refine tk 2 ?_;refine tkv 1 rfl (fun w hSw=>by have hcell:=hSw.2.1;clear hSw;go_simp;try with_reducible rfl) ?_;refine tkv 3 rfl (fun w hSw=>by have hcell:=hSw.1;clear hSw;go_simp;try with_reducible rfl) ?_;refine rd1 4 (fun K hK=>?_);go_simp
     (refine (ki w5 w.heap.size _ p.vr.N p.vr.C p.vrL x.nm (HVR.below (HB5.mono HB.size)) hN2.2).mono ?_;rintro e w' ⟨⟨y5,rfl⟩,rfl⟩)
     refine so hK (hS5.out) (fun hHeld=>?_);clear hK K;cases y5 with
     | true=>
      refine tk 5 ?_;refine tk0 6 ?_;refine tk0 7 ?_;refine tk0 8 ?_;refine tk0 9 ?_;refine tk0 10 ?_;refine tk0 11 ?_;refine tk0 12 ?_;refine tk 13 ?_;refine wpAnyH_done rfl ?_ _;have e0:w5.cell? ⟨g3,0,none⟩=some (.string x.nm):=HK5.cell 0;go_wp2_with (with_reducible refine ah 69 _ _ rfl ?_)
      refine ak.go ?_;refine ae rfl 69 _ _ rfl (z+1) 0 (.agg #[.int .i64 7,.string x.nm]) [.int .i64 7,.string x.nm] rfl rfl rfl 69 [] [.int .i64 0,.string ⟨#[]⟩] [] (by simpa using HK.later HB5.out) rfl rfl (al _ _) (ax _ _) ?_;intro wz hp;have hbk:Bk wz (z+1) 69 [.int .i64 7,.string x.nm]:=by have:=hp.bk;simpa using this
      have HBKz:=aa hbk;have HBz:=aa (ag (ab HB.out (HB5.out)) hp.only (ab HB.out (HB5.out)).size (by have:=HZ.out;omega));clear hp hbk;go_wp2_with fail
      refine bodyPost_ret (am rfl _ _ (z+1) 69 [.int .i64 7,.string x.nm] _ rfl HBKz.out Tryz.underlying69 rfl (al _ _)) rfl ?_;exact ⟨⟨_,_,rfl⟩,HBz.out⟩
     | false=>
      refine tk 5 ?_;refine tk 6 ?_;refine tk 8 ?_;refine tk 10 ?_;refine tkv 7 rfl (fun w hSw=>by have hcell:=hSw.2.2;clear hSw;go_simp;try with_reducible rfl) ?_;refine tkv 11 rfl (fun w hSw=>by have hcell:=hSw.1;clear hSw;go_simp;try with_reducible rfl) ?_;refine tk 9 ?_;refine rd1 12 (fun K hK=>?_);go_simp
      (refine (ki w5 w.heap.size _ k p.pa.C (p.paL.take k) x.nm (((HV.below (HB5.mono HB.size))).take (by omega)) (by omega)).mono ?_;rintro e w' ⟨⟨y6,rfl⟩,rfl⟩)
      refine so hK (hS5.out) (fun hHeld=>?_);clear hK K;refine tk 13 ?_;refine wpAnyH_done rfl ?_ _;cases y6 with
      | true=>
       have e0:w5.cell? ⟨g3,0,none⟩=some (.string x.nm):=HK5.cell 0;go_wp2_with (with_reducible refine ah 69 _ _ rfl ?_)
       refine ak.go ?_;refine ae rfl 69 _ _ rfl (z+1) 0 (.agg #[.int .i64 7,.string x.nm]) [.int .i64 7,.string x.nm] rfl rfl rfl 69 [] [.int .i64 0,.string ⟨#[]⟩] [] (by simpa using HK.later HB5.out) rfl rfl (al _ _) (ax _ _) ?_;intro wz hp;have hbk:Bk wz (z+1) 69 [.int .i64 7,.string x.nm]:=by have:=hp.bk;simpa using this
       have HBKz:=aa hbk;have HBz:=aa (ag (ab HB.out (HB5.out)) hp.only (ab HB.out (HB5.out)).size (by have:=HZ.out;omega));clear hp hbk;go_wp2_with fail
       refine bodyPost_ret (am rfl _ _ (z+1) 69 [.int .i64 7,.string x.nm] _ rfl HBKz.out Tryz.underlying69 rfl (al _ _)) rfl ?_;exact ⟨⟨_,_,rfl⟩,HBz.out⟩
      | false=>
       have e1:w5.cell? ⟨g3,1,none⟩=some (.int .i64 x.sz):=HK5.cell 1;have e2:w5.cell? ⟨g3,2,none⟩=some (.int .i64 x.lo):=HK5.cell 2;have e3:w5.cell? ⟨g3,3,none⟩=some (.int .i64 x.hi):=HK5.cell 3;have e0:w5.cell? ⟨g3,0,none⟩=some (.string x.nm):=HK5.cell 0;cases hs0:(x.sz == 0) with
       | false=>
        have hs1:¬x.sz=0:=by simpa using hs0
        go_wp2_with (with_reducible refine ah 69 _ _ rfl ?_)
        refine ak.go ?_;refine ae rfl 69 _ _ rfl (z+1) 0 (.agg #[.int .i64 3,.string x.nm]) [.int .i64 3,.string x.nm] rfl rfl rfl 69 [] [.int .i64 0,.string ⟨#[]⟩] [] (by simpa using HK.later HB5.out) rfl rfl (al _ _) (ax _ _) ?_;intro wz hp;have hbk:Bk wz (z+1) 69 [.int .i64 3,.string x.nm]:=by have:=hp.bk;simpa using this
        have HBKz:=aa hbk;have HBz:=aa (ag (ab HB.out (HB5.out)) hp.only (ab HB.out (HB5.out)).size (by have:=HZ.out;omega));clear hp hbk;go_wp2_with fail
        refine bodyPost_ret (am rfl _ _ (z+1) 69 [.int .i64 3,.string x.nm] _ rfl HBKz.out Tryz.underlying69 rfl (al _ _)) rfl ?_;exact ⟨⟨_,_,rfl⟩,HBz.out⟩
       | true=>
        have hs1:x.sz=0:=by simpa using hs0
        go_wp2_with fail
        refine (em _ w5).mono ?_;rintro e w' ⟨rfl,rfl⟩;cases dt x.lo (-2147483648) 2147483647 with
        | false=>
         go_wp2_with (with_reducible refine ah 69 _ _ rfl ?_)
         refine ak.go ?_;refine ae rfl 69 _ _ rfl (z+1) 0 (.agg #[.int .i64 2,.string x.nm]) [.int .i64 2,.string x.nm] rfl rfl rfl 69 [] [.int .i64 0,.string ⟨#[]⟩] [] (by simpa using HK.later HB5.out) rfl rfl (al _ _) (ax _ _) ?_;intro wz hp;have hbk:Bk wz (z+1) 69 [.int .i64 2,.string x.nm]:=by have:=hp.bk;simpa using this
         have HBKz:=aa hbk;have HBz:=aa (ag (ab HB.out (HB5.out)) hp.only (ab HB.out (HB5.out)).size (by have:=HZ.out;omega));clear hp hbk;go_wp2_with fail
         refine bodyPost_ret (am rfl _ _ (z+1) 69 [.int .i64 2,.string x.nm] _ rfl HBKz.out Tryz.underlying69 rfl (al _ _)) rfl ?_;exact ⟨⟨_,_,rfl⟩,HBz.out⟩
        | true=>
         go_wp2_with fail
         refine (em _ w5).mono ?_;rintro e w' ⟨rfl,rfl⟩;cases dt x.hi (-2147483648) 2147483647 with
         | false=>
          go_wp2_with (with_reducible refine ah 69 _ _ rfl ?_)
          refine ak.go ?_;refine ae rfl 69 _ _ rfl (z+1) 0 (.agg #[.int .i64 2,.string x.nm]) [.int .i64 2,.string x.nm] rfl rfl rfl 69 [] [.int .i64 0,.string ⟨#[]⟩] [] (by simpa using HK.later HB5.out) rfl rfl (al _ _) (ax _ _) ?_;intro wz hp;have hbk:Bk wz (z+1) 69 [.int .i64 2,.string x.nm]:=by have:=hp.bk;simpa using this
          have HBKz:=aa hbk;have HBz:=aa (ag (ab HB.out (HB5.out)) hp.only (ab HB.out (HB5.out)).size (by have:=HZ.out;omega));clear hp hbk;go_wp2_with fail
          refine bodyPost_ret (am rfl _ _ (z+1) 69 [.int .i64 2,.string x.nm] _ rfl HBKz.out Tryz.underlying69 rfl (al _ _)) rfl ?_;exact ⟨⟨_,_,rfl⟩,HBz.out⟩
         | true=>
          by_cases hgt:x.hi < x.lo
          ·
           go_wp2_with (with_reducible refine ah 69 _ _ rfl ?_)
           refine ak.go ?_;refine ae rfl 69 _ _ rfl (z+1) 0 (.agg #[.int .i64 2,.string x.nm]) [.int .i64 2,.string x.nm] rfl rfl rfl 69 [] [.int .i64 0,.string ⟨#[]⟩] [] (by simpa using HK.later HB5.out) rfl rfl (al _ _) (ax _ _) ?_;intro wz hp;have hbk:Bk wz (z+1) 69 [.int .i64 2,.string x.nm]:=by have:=hp.bk;simpa using this
           have HBKz:=aa hbk;have HBz:=aa (ag (ab HB.out (HB5.out)) hp.only (ab HB.out (HB5.out)).size (by have:=HZ.out;omega));clear hp hbk;go_wp2_with fail
           refine bodyPost_ret (am rfl _ _ (z+1) 69 [.int .i64 2,.string x.nm] _ rfl HBKz.out Tryz.underlying69 rfl (al _ _)) rfl ?_;exact ⟨⟨_,_,rfl⟩,HBz.out⟩
          ·go_wp2_with fail
           go_roundw
           case rel=>exact ⟨k+1,by omega,by go_num,HB5.out⟩
           case measure=>simp [intOf];omega
   ·have HBr:=aa hB.out;obtain ⟨w2,rfl⟩:∃x,x=wr:=⟨_,rfl⟩;go_wp2_with (with_reducible refine aj rfl 26 _ rfl z rfl (pgC p) 26 (HP.out.later HBr.out) _ Tryz.underlying26 rfl (ct p) ?_)
    clear c6;refine (uh w2 p (HPG.later HBr.out)).mono ?_;rintro e w3 ⟨⟨m,rfl⟩,hbn⟩;have HB3:=aa (ab HBr.out hbn);clear hbn;by_cases hm:(512:Int) < m
    ·
     go_wp2_with (with_reducible refine ah 69 _ _ rfl ?_)
     refine ak.go ?_;refine ae rfl 69 _ _ rfl (z+1) 0 (.agg #[.int .i64 8,.string ⟨#[112,108,97,121]⟩]) [.int .i64 8,.string ⟨#[112,108,97,121]⟩] rfl rfl rfl 69 [] [.int .i64 0,.string ⟨#[]⟩] [] (by simpa using HK.later HB3.out) rfl rfl (al _ _) (ax _ _) ?_;intro wz hp;have hbk:Bk wz (z+1) 69 [.int .i64 8,.string ⟨#[112,108,97,121]⟩]:=by have:=hp.bk;simpa using this
     have HBKz:=aa hbk;have HBz:=aa (ag (ab HB.out (HB3.out)) hp.only (ab HB.out (HB3.out)).size (by have:=HZ.out;omega));clear hp hbk;go_wp2_with fail
     refine bodyPost_ret (am rfl _ _ (z+1) 69 [.int .i64 8,.string ⟨#[112,108,97,121]⟩] _ rfl HBKz.out Tryz.underlying69 rfl (al _ _)) rfl ?_;exact ⟨⟨_,_,rfl⟩,HBz.out⟩
    ·have c8:w3.cell? ⟨z,8,none⟩=some (.string p.si):=(HP.later HB3.out).cell 8;go_wp2_with fail
     refine (fu p.si hsi w3).mono ?_;rintro e w4 ⟨⟨y4,rfl⟩,hbn⟩;have HB4:=aa (ab HB3.out hbn);clear hbn c8;have c8:w4.cell? ⟨z,8,none⟩=some (.string p.si):=(HP.later HB4.out).cell 8;cases y4 with
     | false=>
      go_wp2_with (with_reducible refine ah 69 _ _ rfl ?_)
      refine ak.go ?_;refine ae rfl 69 _ _ rfl (z+1) 0 (.agg #[.int .i64 6,.string p.si]) [.int .i64 6,.string p.si] rfl rfl rfl 69 [] [.int .i64 0,.string ⟨#[]⟩] [] (by simpa using HK.later HB4.out) rfl rfl (al _ _) (ax _ _) ?_;intro wz hp;have hbk:Bk wz (z+1) 69 [.int .i64 6,.string p.si]:=by have:=hp.bk;simpa using this
      have HBKz:=aa hbk;have HBz:=aa (ag (ab HB.out (HB4.out)) hp.only (ab HB.out (HB4.out)).size (by have:=HZ.out;omega));clear hp hbk;go_wp2_with fail
      refine bodyPost_ret (am rfl _ _ (z+1) 69 [.int .i64 6,.string p.si] _ rfl HBKz.out Tryz.underlying69 rfl (al _ _)) rfl ?_;exact ⟨⟨_,_,rfl⟩,HBz.out⟩
     | true=>
      have c3:w4.cell? ⟨z,3,none⟩=some (.slice p.vr.A p.vr.N p.vr.C):=(HP.later HB4.out).cell 3;go_wp2_with fail
      refine (ki w4 w.heap.size _ p.vr.N p.vr.C p.vrL p.si (HVR.below (HB4.mono HB.size)) hN2.2).mono ?_;rintro e w' ⟨⟨y5,rfl⟩,rfl⟩;cases y5 with
      | true=>
       go_wp2_with (with_reducible refine ah 69 _ _ rfl ?_)
       refine ak.go ?_;refine ae rfl 69 _ _ rfl (z+1) 0 (.agg #[.int .i64 7,.string p.si]) [.int .i64 7,.string p.si] rfl rfl rfl 69 [] [.int .i64 0,.string ⟨#[]⟩] [] (by simpa using HK.later HB4.out) rfl rfl (al _ _) (ax _ _) ?_;intro wz hp;have hbk:Bk wz (z+1) 69 [.int .i64 7,.string p.si]:=by have:=hp.bk;simpa using this
       have HBKz:=aa hbk;have HBz:=aa (ag (ab HB.out (HB4.out)) hp.only (ab HB.out (HB4.out)).size (by have:=HZ.out;omega));clear hp hbk;go_wp2_with fail
       refine bodyPost_ret (am rfl _ _ (z+1) 69 [.int .i64 7,.string p.si] _ rfl HBKz.out Tryz.underlying69 rfl (al _ _)) rfl ?_;exact ⟨⟨_,_,rfl⟩,HBz.out⟩
      | false=>
       go_wp2_with fail
       refine (ca _).mono ?_;rintro e wf ⟨rfl,hbn⟩;have HBf:=aa (ab HB4.out hbn);clear hbn;go_wp2_with (with_reducible refine ah 69 _ _ rfl ?_)
       refine ak.go ?_;refine ae rfl 69 _ _ rfl (z+1) 0 (.agg #[.int .i64 0,.string ⟨#[]⟩]) [.int .i64 0,.string ⟨#[]⟩] rfl rfl rfl 69 [] [.int .i64 0,.string ⟨#[]⟩] [] (by simpa using HK.later HBf.out) rfl rfl (al _ _) (ax _ _) ?_;intro wz hp;have hbk:Bk wz (z+1) 69 [.int .i64 0,.string ⟨#[]⟩]:=by have:=hp.bk;simpa using this
       have HBKz:=aa hbk;have HBz:=aa (ag (ab HB.out (HBf.out)) hp.only (ab HB.out (HBf.out)).size (by have:=HZ.out;omega));clear hp hbk;go_wp2_with fail
       refine bodyPost_ret (am rfl _ _ (z+1) 69 [.int .i64 0,.string ⟨#[]⟩] _ rfl HBKz.out Tryz.underlying69 rfl (al _ _)) rfl ?_;exact ⟨⟨_,_,rfl⟩,HBz.out⟩
theorem eo {w w' : World} {b o lo:Nat} {cs:List Value} (h:w.rangeAt b o cs) (hb:Below lo w w') (hlt:b < lo):w'.rangeAt b o cs:=fun j v hv=>(hb.cell (p:=⟨b,o+j,none⟩) hlt).trans (h j v hv)
theorem rT (w:World):(Instr.build 81 #[]).run Tryz.prog w=.ok (.agg (vaC zVa).toArray) w:=by kernel_rfl
set_option maxRecDepth 20000 in
set_option maxHeartbeats 1000000 in
theorem ui (w:World) (p:PgT) (nm:ByteArray) (h:cI w w.heap.size p):Calls Tryz.prog 244 #[.agg (pgC p).toArray,.string nm] w fun e w'=>sK e∧Below w.heap.size w w':=by
 obtain ⟨g,hg⟩:∃g,w.heap.size=g:=⟨_,rfl⟩;obtain ⟨w1,hw1⟩:∃w1,(w.alloc (.cells (pgC p).toArray 26)).alloc (.cells #[.string ⟨#[]⟩,.int .i64 0,.int .i64 0,.int .i64 0] 81)=w1:=⟨_,rfl⟩;have hk:Bk w1 g 26 (pgC p):=hw1▸(Bk.at_ w _ _ hg rfl).alloc _;have hr:Bk w1 (g+1) 81 (vaC zVa):=hw1▸Bk.at_ _ _ _ (by simp [hg]) rfl;have hb:Below w.heap.size w w1:=hw1▸(ai w _).alloc (by simp) _;have HW:=aa hw1;have HB:=aa hb;have HV:=aa (h.vr.below hb);have HG:=aa hg;have HR1:=aa hr;have HK:=aa hk;have hlen:=h.vr.len;have hN2:p.vr.N≤1048576:=by have:=h.few;unfold PgT.size at this;omega
 clear hk hw1 h hb hlen hr hg;go_enter Tryz.func244,Tryz.ntmps244;go_upto_region 1 with fail
 rw [HW.out,HG.out];go_wp2_with fail
 go_loopw [7,8] (fun s i wr=>∃(k:Nat) (sv:Int),k≤p.vr.N∧i=.int .i64 k∧s=.int .i64 sv∧Hid (Below w1.heap.size w1 wr)) (fun _ i _=>p.vr.N - (intOf i).toNat)
 case atStart=>exact ⟨0,0,Nat.zero_le _,rfl,rfl,Below.refl _ _⟩
 case round=>
  obtain ⟨k,sv,hk,rfl,rfl,hB⟩:=hrel;have c3:wr.cell? ⟨g,3,none⟩=some (.slice p.vr.A p.vr.N p.vr.C):=(HK.later hB.out).cell 3;by_cases hlt:k < p.vr.N
  ·obtain ⟨b,o,x,hA,hb,hr,hx,hok⟩:=(HV.below (hB.out.mono HB.size)).spot hlt;have HR2:=aa hr;have HOK:=aa hok;have HBW:=aa hb;have d0:wr.cell? ⟨b,o+k*4,none⟩=some (.string x.nm):=hr 0 _ rfl;have hkN:(k:Int) < p.vr.N:=by omega
   clear hr hx hok hb;rw [hA] at c3;have hcz:Hid (∀wk,Calls Tryz.prog 70 #[.agg (vaC x).toArray] wk fun e w'=>e=.returned (.int .i64 (eO x))∧Below wk.heap.size wk w'):=fun wk=>iI wk x;cases ht:(x.nm.toList == nm.toList) with
   | false=>
    go_wp2_with (with_reducible refine wpList_load_mid rfl 81 _ rfl b (o+k*4) rfl (vaC x) _ HR2.out Tryz.underlying81 rfl (bQ x) ?_)
    refine (hcz.out wr).mono ?_;rintro e w3 ⟨rfl,hb3⟩;have HB3:=aa hb3;clear hb3 c3 d0;go_wp2_with fail
    go_roundw
    case rel=>exact ⟨k+1,_,by omega,by go_num,rfl,ab hB.out HB3.out⟩
    case measure=>simp [intOf];omega
   | true=>
    go_wp2_with fail
    refine wp_region_held_drew (S:=fun wk=>wk.cell? ⟨g,3,none⟩=some (.slice (some ⟨b,o,none⟩) p.vr.N p.vr.C)∧wk.rangeAt b (o+k*4) (vaC x)) (by kernel_rfl) ⟨c3,HR2.out⟩ (fun hHeld=>?_);have HB3:=aa (ac wr wr.heap.size 1);clear d0;refine tk 0 ?_;refine tk 1 ?_;refine tk 3 ?_;refine tkv 2 rfl (fun w hSw=>by have hcell:=hSw.1;clear hSw;go_simp;try with_reducible rfl) ?_;refine tk 6 ?_;refine tk 4 ?_;refine tkR 5 (vaC x) (fun w hSw=>hSw.2) Tryz.underlying81 ((bQ x)) ?_;have hr9:Bk wr.drew (g+1) 81 (vaC zVa):=HR1.later (ab hB.out HB3.out);refine rdw 7 (fun K hK=>?_);refine au 81 _ _ rfl (g+1) 0 (.agg (vaC x).toArray) (vaC x) rfl rfl rfl 81 [] (vaC zVa) [] (by simpa using hr9) rfl rfl (bQ _) (bw _) ?_;intro w6 hp;have HK6:Hid (Bk w6 (g+1) 81 (vaC x)):=by show Bk _ _ _ _;have:=hp.bk;simpa using this
    have hlb:=ab HB.out (ab hB.out HB3.out);have HB6:=aa (ag hlb hp.only hlb.size (by have:=HG.out;omega));have hk6:Bk w6 g 26 (pgC p):=(HK.later (ab hB.out HB3.out)).grown hp.only (fun e=>by injection e with e;omega);have hc6:w6.cell? ⟨g,3,none⟩=some (.slice (some ⟨b,o,none⟩) p.vr.N p.vr.C):=by rw [←hA];exact hk6.cell 3
    have hr6:w6.rangeAt b (o+k*4) (vaC x):=eo HR2.out (ag (HB3.mono (Nat.le_trans HB.size hB.out.size)) hp.only (Nat.le_trans HB.size hB.out.size) (by have:=HG.out;omega)) HBW.out;clear hp;refine hK.out _ _ ⟨hc6,hr6⟩ (fun hHeld=>?_);clear hK K hk6 hc6 hr6 c3;try simp only [Act.put,q1,q2,q3,q4,q5,q6]
    refine tk 8 ?_;refine wpAnyH_done rfl ?_ _;go_wp2_with fail
    refine bodyPost_ret (eu rfl _ _ (g+1) 81 (vaC x) _ rfl HK6.out Tryz.underlying81 rfl (bQ _)) rfl ?_;exact ⟨⟨_,x,_,rfl,HOK.out⟩,HB6.out⟩
  ·have hr9:Bk wr (g+1) 81 (vaC zVa):=HR1.later hB.out;go_wp2_with (first | ((with_reducible refine aS rfl 81 _ rfl #[] ?_ _ (rT _) ?_);focus (simp [Act.eval,Act.put];done)) | (with_reducible refine ah 81 _ _ rfl ?_))
   refine ak.go ?_;refine ae rfl 81 _ _ rfl (g+1) 0 (.agg (vaC zVa).toArray) (vaC zVa) rfl rfl rfl 81 [] (vaC zVa) [] (by simpa using hr9) rfl rfl (bQ _) (bw _) ?_;intro w6 hp;have HK6:Hid (Bk w6 (g+1) 81 (vaC zVa)):=by show Bk _ _ _ _;have:=hp.bk;simpa using this
   have hlb:=ab HB.out hB.out;have HB6:=aa (ag hlb hp.only hlb.size (by have:=HG.out;omega));clear hp;go_wp2_with fail
   refine bodyPost_ret (eu rfl _ _ (g+1) 81 (vaC zVa) _ rfl HK6.out Tryz.underlying81 rfl (bQ _)) rfl ?_;exact ⟨⟨_,zVa,_,rfl,rf⟩,HB6.out⟩
structure kk (w:World) (B:Nat) (p:PgT) (A:Option Addr) (N C:Nat) (l:List ByteArray):Prop where
 pg:cI w B p
 sl:Sl w B 1 A N (l.map .string)
 cap:N≤C
section
variable {w w' : World} {B B' : Nat} {p:PgT} {A:Option Addr} {N C:Nat} {l:List ByteArray}
theorem kk.below (h:kk w B p A N C l) (hb:Below B w w'):kk w' B p A N C l:=⟨h.pg.below hb,h.sl.below hb,h.cap⟩
theorem kk.more (h:kk w B p A N C l) (hB:B≤B'):kk w B' p A N C l:=⟨h.pg.more hB,h.sl.more hB,h.cap⟩
theorem kk.later (h:kk w w.heap.size p A N C l) (hb:Below w.heap.size w w'):kk w' w'.heap.size p A N C l:=(h.below hb).more hb.size
end
def kwC (p:PgT) (A:Option Addr) (N C:Nat):List Value:=pgC p ++ [.slice A N C]
theorem dy (p:PgT) (A:Option Addr) (N C:Nat):(Tryz.prog.info? 128).map (·.size)=some (kwC p A N C).length:=(show (Tryz.prog.info? 128).map (·.size)=some 12 by kernel_rfl)
theorem zZ (p:PgT) (A:Option Addr) (N C:Nat):∀v∈kwC p A N C,v.oneCell'=true:=by
 intro v hv;simp only [kwC,List.mem_append,List.mem_cons,List.not_mem_nil,or_false] at hv;rcases hv with hv | rfl
 ·exact yy p v hv
 ·rfl
theorem Bk.kwP {w:World} {g:Nat} {t:TypeId} {p:PgT} {A:Option Addr} {N C:Nat} (h:Bk w g t (kwC p A N C)):w.rangeAt g 0 (pgC p):=Bk.range (pre:=[]) (post:=[.slice A N C]) h rfl
set_option maxRecDepth 20000 in
set_option maxHeartbeats 1000000 in
theorem gE (w:World) (p:PgT) (A:Option Addr) (N C:Nat) (l:List ByteArray) (nm:ByteArray) (h:kk w w.heap.size p A N C l) (hN:N≤4194304):Calls Tryz.prog 226 #[.agg (kwC p A N C).toArray,.string nm] w fun e w'=>il e∧Below w.heap.size w w':=by
 obtain ⟨z,hz⟩:∃z,w.heap.size=z:=⟨_,rfl⟩;obtain ⟨w1,hw1⟩:∃w1,w.alloc (.cells (kwC p A N C).toArray 128)=w1:=⟨_,rfl⟩;have hk:Bk w1 z 128 (kwC p A N C):=hw1▸Bk.at_ w _ _ hz rfl;have hb:Below w.heap.size w w1:=hw1▸ai w _;have HW:=aa hw1;have HB:=aa hb;have HK:=aa hk;have HZ:=aa hz;have HN:=aa (h.later hb);have c11:w1.cell? ⟨z,11,none⟩=some (.slice A N C):=hk.cell 11;clear hk hw1 h hb hz;go_enter Tryz.func226,Tryz.ntmps226;go_upto_region 1 with fail
 rw [HW.out,HZ.out];go_wp2_with fail
 go_loop [5] (fun i=>∃k:Nat,k≤N∧i=.int .i64 k) (fun i=>N - (intOf i).toNat);case atStart=>exact ⟨0,Nat.zero_le _,rfl⟩
 case round=>
  obtain ⟨k,hk,rfl⟩:=hrel;by_cases hlt:k < N
  ·obtain ⟨ad,x,hA,hb,hx,hc⟩:=HN.sl.atg hlt;have hkN:(k:Int) < N:=by omega
   subst hA;clear hb hx;cases ht:(x.toList == nm.toList)
   ·go_wp2_with fail
    go_round;case rel=>exact ⟨k+1,by omega,by go_num⟩
    case measure=>simp [intOf];omega
   ·go_wp2_with fail
    go_ret;exact ⟨⟨_,rfl⟩,HB.out⟩
  ·go_wp2_with (with_reducible refine wpList_load_mid rfl 26 _ rfl z 0 rfl (pgC p) _ HK.out.kwP Tryz.underlying26 rfl (ct p) ?_)
   refine (ui w1 p nm HN.pg).mono ?_;rintro e w2 ⟨⟨n,v,b,rfl,hv⟩,hbn⟩;have HB2:=aa (ab HB.out hbn);clear hbn c11;go_wp2_with (with_reducible refine ah 81 _ _ rfl ?_)
   refine ak.go ?_;obtain ⟨g3,hg3⟩:∃q,w2.heap.size=q:=⟨_,rfl⟩;rw [hg3];refine an 81 _ _ rfl g3 hg3 (vaC v) rfl rfl rfl rfl (bQ _) (bw _) ?_;intro w3 hk hbn;have HB3:=aa (ab HB2.out hbn);have c1:w3.cell? ⟨g3,1,none⟩=some (.int .i64 v.sz):=hk.cell 1;clear hbn hk hg3;cases b with
   | false=>
    go_wp2_with fail
    go_ret;exact ⟨⟨_,rfl⟩,HB3.out⟩
   | true=>
    by_cases h0:0 < v.sz
    ·go_wp2_with fail
     go_ret;exact ⟨⟨_,rfl⟩,HB3.out⟩
    ·go_wp2_with fail
     go_ret;exact ⟨⟨_,rfl⟩,HB3.out⟩
theorem uj (op:Int) (w:World):Calls Tryz.prog 227 #[.int .i64 op] w fun e w'=>il e∧w=w':=by
 go_enter Tryz.func227,Tryz.ntmps227;by_cases h2:op < 2
 ·go_wp2_with fail
  go_ret;exact ⟨⟨_,rfl⟩,rfl⟩
 ·by_cases h5:op < 5
  ·go_wp2_with fail
   go_ret;exact ⟨⟨_,rfl⟩,rfl⟩
  ·go_wp2_with fail
   go_ret;exact ⟨⟨_,rfl⟩,rfl⟩
def z8:List Value:=[.int .i64 1,.int .i64 2,.int .i64 1,.int .i64 0,.int .i64 0,.int .i64 0,.int .i64 1,.int .i64 0,.int .i64 2,.int .i64 1]
theorem Aa (w:World):(Instr.buildSlice 22 10 #[(0,.int .i64 1),(1,.int .i64 2),(2,.int .i64 1),(3,.int .i64 0),(4,.int .i64 0),(5,.int .i64 0),(6,.int .i64 1),(7,.int .i64 0),(8,.int .i64 2),(9,.int .i64 1)]).run Tryz.prog w=.ok (.slice (some ⟨w.heap.size,0,none⟩) 10 10) (w.alloc (.cells z8.toArray 3)):=by kernel_rfl
theorem Ab {k:Nat} (h:k < 10):∃v:Int,z8[k]?=some (.int .i64 v):=by
 have:k=0∨k=1∨k=2∨k=3∨k=4∨k=5∨k=6∨k=7∨k=8∨k=9:=by omega
 rcases this with rfl | rfl | rfl | rfl | rfl | rfl | rfl | rfl | rfl | rfl <;> exact ⟨_,rfl⟩
set_option maxRecDepth 20000 in
theorem rU (k:Nat) (hk:k < 10) (w:World):Calls Tryz.prog 190 #[.int .i64 k] w fun e w'=>il e∧Below w.heap.size w w':=by
 obtain ⟨v,hv⟩:=Ab hk;have hk10:(k:Int) < 10:=by omega
 go_enter Tryz.func190,Tryz.ntmps190;go_wp2_with (with_reducible refine a8 22 _ _ rfl ?_)
 refine ak.go ?_;refine ar rfl 22 10 _ rfl #[(0,.int .i64 1),(1,.int .i64 2),(2,.int .i64 1),(3,.int .i64 0),(4,.int .i64 0),(5,.int .i64 0),(6,.int .i64 1),(7,.int .i64 0),(8,.int .i64 2),(9,.int .i64 1)] ?_ 3 z8 (fun w=>Aa w) ?_
 ·simp [Act.eval,Act.put]
 intro q2 w2 hq2 hb2 hbn;have HB2:=aa hbn;have cK:w2.cell? ⟨q2,k,none⟩=some (.int .i64 v):=by rw [hb2.cell k];exact hv
 clear hq2 hb2 hbn hv;go_wp2_with fail
 go_ret;exact ⟨⟨_,rfl⟩,HB2.out⟩
def yB:List Value:=[.string ⟨#[115,116,97,114,116]⟩,.string ⟨#[116,117,114,110]⟩,.string ⟨#[112,108,97,121]⟩,.string ⟨#[115,105,108,101,110,116]⟩,.string ⟨#[112,97,121]⟩]
theorem Ac (w:World):(Instr.buildSlice 126 5 #[(0,.string ⟨#[115,116,97,114,116]⟩),(1,.string ⟨#[116,117,114,110]⟩),(2,.string ⟨#[112,108,97,121]⟩),(3,.string ⟨#[115,105,108,101,110,116]⟩),(4,.string ⟨#[112,97,121]⟩)]).run Tryz.prog w=.ok (.slice (some ⟨w.heap.size,0,none⟩) 5 5) (w.alloc (.cells yB.toArray 9)):=by kernel_rfl
theorem Ad {k:Nat} (h:k < 5):∃v:ByteArray,yB[k]?=some (.string v):=by
 have:k=0∨k=1∨k=2∨k=3∨k=4:=by omega
 rcases this with rfl | rfl | rfl | rfl | rfl <;> exact ⟨_,rfl⟩
set_option maxRecDepth 20000 in
theorem oI (w:World):Calls Tryz.prog 192 #[] w fun e w'=>(∃q,e=.returned (.slice (some ⟨q,0,none⟩) 5 5)∧Bk w' q 9 yB)∧Below w.heap.size w w':=by
 go_enter Tryz.func192,Tryz.ntmps192;go_wp2_with (with_reducible refine a8 126 _ _ rfl ?_)
 refine ak.go ?_;refine ar rfl 126 5 _ rfl #[(0,.string ⟨#[115,116,97,114,116]⟩),(1,.string ⟨#[116,117,114,110]⟩),(2,.string ⟨#[112,108,97,121]⟩),(3,.string ⟨#[115,105,108,101,110,116]⟩),(4,.string ⟨#[112,97,121]⟩)] ?_ 9 yB (fun w=>Ac w) ?_
 ·simp [Act.eval,Act.put]
 intro q2 w2 hq2 hb2 hbn;have HB2:=aa hbn;have HK2:=aa hb2;clear hq2 hb2 hbn;go_wp2_with fail
 go_ret;exact ⟨⟨q2,rfl,HK2.out⟩,HB2.out⟩
theorem qg (kd part:Int) (last:Bool) (w:World):Calls Tryz.prog 191 #[.int .i64 kd,.int .i64 part,.bool last] w fun e w'=>fq e∧w=w':=by
 go_enter Tryz.func191,Tryz.ntmps191;by_cases h4:kd=4
 ·subst h4;go_wp2_with fail;go_ret;exact ⟨⟨_,rfl⟩,rfl⟩
 by_cases h5:kd=5
 ·subst h5;go_wp2_with fail;go_ret;exact ⟨⟨_,rfl⟩,rfl⟩
 by_cases h6:kd=6
 ·subst h6;go_wp2_with fail;go_ret;exact ⟨⟨_,rfl⟩,rfl⟩
 by_cases h7:kd=7
 ·subst h7;go_wp2_with fail;go_ret;exact ⟨⟨_,rfl⟩,rfl⟩
 by_cases h8:kd=8
 ·subst h8;go_wp2_with fail;go_ret;exact ⟨⟨_,rfl⟩,rfl⟩
 by_cases h9:kd=9
 ·subst h9;by_cases hp:part=4
  ·subst hp;go_wp2_with fail;go_ret;exact ⟨⟨_,rfl⟩,rfl⟩
  ·go_wp2_with fail;go_ret;exact ⟨⟨_,rfl⟩,rfl⟩
 go_wp2_with fail
 go_ret;exact ⟨⟨_,rfl⟩,rfl⟩
end Go.Proofs.YtllbdpdnpaocnaaGreatDoor
