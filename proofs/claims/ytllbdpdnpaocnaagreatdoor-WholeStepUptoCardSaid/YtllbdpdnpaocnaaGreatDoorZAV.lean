/- Part of the proof of WholeStep. -/
import Derived.Test.YtllbdpdnpaocnaaGreatDoorZAU
import Derived.Deep.CutBlock
import Derived.Deep.CutRange
namespace Go.Proofs.YtllbdpdnpaocnaaGreatDoor
set_option linter.unusedSimpArgs false
set_option linter.unusedVariables false
set_option linter.constructorNameAsVariable false
open Go.RowKit Go.Maps
theorem oJ (op n:Int) (nm:ByteArray) (A:Option Addr) (N C:Nat):(Tryz.prog.info? 255).map (·.size)=some (exC op n nm A N C).length:=(show (Tryz.prog.info? 255).map (·.size)=some 4 by kernel_rfl)
set_option maxRecDepth 20000 in
theorem uk (F:Es):∀(w:World) (op n:Int) (nm:ByteArray) (A:Option Addr) (N C:Nat),de w w.heap.size A N F→F.size≤1048576→Calls Tryz.prog 194 #[.agg (exC op n nm A N C).toArray] w fun e w'=>il e∧Below w.heap.size w w':=by
 obtain ⟨m,hm⟩:∃m,F.size=m:=⟨_,rfl⟩;induction m using Nat.strongRecOn generalizing F with
 | ind m ih=>
  intro w op n nm A N C hF hsz;obtain ⟨w1,hw1⟩:∃w1,w.alloc (.cells (exC op n nm A N C).toArray 255)=w1:=⟨_,rfl⟩;have hk1:Bk w1 w.heap.size 255 (exC op n nm A N C):=hw1▸Bk.new' w _ _ rfl;have hb1:Below w.heap.size w w1:=hw1▸ai w _;have HF:=aa (hF.below hb1);have HIH:=aa ih;have HM:=aa hm;have HW:=aa hw1;have HB1:=aa hb1;have HK:=aa hk1;have hNF:=hF.len;have hN2:N≤F.size:=by have:=Es.len_size F;omega
  obtain ⟨z,hz⟩:∃z,w.heap.size=z:=⟨_,rfl⟩;have HZ:=aa hz;rw [hz] at HK;clear ih hm hNF hF hw1 hb1 hk1 hz;go_enter Tryz.func194,Tryz.ntmps194;go_upto_region 1 with fail
  rw [HW.out,HZ.out];go_wp2_with fail
  go_loopw [3,4,5] (fun s i _ wr=>∃(k:Nat) (sv:Int),k≤N∧i=.int .i64 k∧s=.int .i64 sv∧Hid (Below w1.heap.size w1 wr)) (fun _ i _ _=>N - (intOf i).toNat)
  case atStart=>exact ⟨0,0,Nat.zero_le _,rfl,rfl,Below.refl _ _⟩
  case round=>
   obtain ⟨k,sv,hk,rfl,rfl,hB⟩:=hrel;have c3:wr.cell? ⟨z,3,none⟩=some (.slice A N C):=(HK.later hB.out).cell 3;by_cases hlt:k < N
   ·obtain ⟨b,o,op',n',nm',A',N',C',kids,rest,hA,hb,hr,e1,e2,hkd,_,_,_,_,hks⟩:=(HF.below (hB.out.mono HB1.size)).spot hlt;subst hA;have HR:=aa hr;have hkN:(k:Int) < N:=by omega
    have HC:Hid (Calls Tryz.prog 194 #[.agg (exC op' n' nm' A' N' C').toArray] wr fun e w'=>il e∧Below wr.heap.size wr w'):=HIH.out kids.size (by have:=HM.out;omega) kids rfl wr op' n' nm' A' N' C' (hkd.more (Nat.le_trans HB1.size hB.out.size)) (by omega);clear hkd hr e1 e2;go_wp2_with (with_reducible refine wpList_load_mid rfl 255 _ rfl b (o+k*4) rfl (exC op' n' nm' A' N' C') _ HR.out Tryz.underlying255 rfl (oJ _ _ _ _ _ _) ?_)
    refine HC.mono ?_;rintro e w3 ⟨⟨v,rfl⟩,hb3⟩;have HB3:=aa (ab hB.out hb3);clear hb3 c3;by_cases hg:sv < v
    ·go_wp2_with fail
     go_roundw
     case rel=>exact ⟨k+1,_,by omega,by go_num,rfl,HB3.out⟩
     case measure=>simp [intOf];omega
    ·go_wp2_with fail
     go_roundw
     case rel=>exact ⟨k+1,_,by omega,by go_num,rfl,HB3.out⟩
     case measure=>simp [intOf];omega
   ·go_wp2_with fail
    go_ret;go_light;exact ⟨⟨_,rfl⟩,ab HB1.out hB.out⟩
theorem jg (n:Int) (w:World):(Instr.build 69 #[(0,.int .i64 n)]).run Tryz.prog w=.ok (.agg #[.int .i64 n,.string ⟨#[]⟩]) w:=by kernel_rfl
set_option maxRecDepth 20000 in
set_option maxHeartbeats 2000000 in
theorem ul (F:Es):∀(w:World) (p:PgT) (A:Option Addr) (N C:Nat) (l:List ByteArray) (op n:Int) (nm:ByteArray) (A' : Option Addr) (N' C' : Nat),kk w w.heap.size p A N C l→N≤4194304→de w w.heap.size A' N' F→F.size≤1048576→Calls Tryz.prog 195 #[.agg (kwC p A N C).toArray,.agg (exC op n nm A' N' C').toArray] w fun e w'=>iJ e∧Below w.heap.size w w':=by
 obtain ⟨m,hm⟩:∃m,F.size=m:=⟨_,rfl⟩;induction m using Nat.strongRecOn generalizing F with
 | ind m ih=>
  intro w p A N C l op n nm A' N' C' hkn hNb hF hsz;obtain ⟨z,hz⟩:∃z,w.heap.size=z:=⟨_,rfl⟩;obtain ⟨w1,hw1⟩:∃w1,((w.alloc (.cells (kwC p A N C).toArray 128)).alloc (.cells (exC op n nm A' N' C').toArray 255)).alloc (.cells #[.int .i64 0,.string ⟨#[]⟩] 69)=w1:=⟨_,rfl⟩;have hk:Bk w1 z 128 (kwC p A N C):=hw1▸((Bk.at_ w _ _ hz rfl).alloc _).alloc _;have hx:Bk w1 (z+1) 255 (exC op n nm A' N' C'):=hw1▸(Bk.at_ _ _ _ (by simp [hz]) rfl).alloc _;have hf:Bk w1 (z+2) 69 [.int .i64 0,.string ⟨#[]⟩]:=hw1▸Bk.at_ _ _ _ (by simp [hz]) rfl;have hb:Below w.heap.size w w1:=hw1▸((ai w _).alloc (by simp) _).alloc (by simp;omega) _;have HW:=aa hw1;have HZ:=aa hz;have HB:=aa hb;have HKW:=aa hk;have HX:=aa hx;have HK:=aa hf;have HKN:=aa (hkn.later hb);have HF:=aa (hF.later hb);have HF0:=aa (hF.below hb);have HIH:=aa ih;have HM:=aa hm;have hbf:=fK;have hbf1:=jg;have hNF:=hF.len;have hN2:N'≤F.size:=by have:=Es.len_size F;omega
  clear ih hm hNF hF hw1 hz hb hk hx hf hkn;go_enter Tryz.func195,Tryz.ntmps195;go_upto_region 1 with fail
  rw [HW.out,HZ.out];refine wp_region_held_drew (S:=fun wk=>wk.cell? ⟨z+1,0,none⟩=some (.int .i64 op)∧wk.cell? ⟨z+1,3,none⟩=some (.slice A' N' C')) (by kernel_rfl) ⟨(HX.later (ac w1 _ 1)).cell 0,(HX.later (ac w1 _ 1)).cell 3⟩ (fun hHeld=>?_);obtain ⟨w2,hw2⟩:∃wa,w1.drew=wa:=⟨_,rfl⟩;have hb2:Below w1.heap.size w1 w2:=hw2▸ac w1 w1.heap.size 1;rw [hw2] at hHeld ⊢;have HB2:=aa hb2;have HS2:=aa hHeld;clear hw2 hb2;obtain ⟨x2,hx2⟩:∃x,dt op 0 17=x:=⟨_,rfl⟩;have HR2:Hid (Calls Tryz.prog 58 #[.int .i64 op,.int .i64 0,.int .i64 17] w2 fun e w'=>e=.returned (.bool x2)∧w2=w'):=by rw [←hx2];exact gZ op 0 17 w2
  clear hx2;refine tk 0 ?_;refine tkv 1 rfl (fun w hSw=>by have hcell:=hSw.1;clear hSw;go_simp;try with_reducible rfl) ?_;refine rd1 2 (fun K hK=>?_);go_simp
  (refine HR2.mono ?_;rintro e w9 ⟨rfl,rfl⟩)
  refine so hK (HS2.out) (fun hHeld=>?_);clear hK K;refine tk 3 ?_;cases x2 with
  | false=>
   refine tk 4 ?_;refine tk0 5 ?_;refine tk0 6 ?_;refine tk0 7 ?_;refine tk0 8 ?_;refine tk0 9 ?_;refine tk0 10 ?_;refine tk0 11 ?_;refine tk 12 ?_;refine wpAnyH_done rfl ?_ _;go_wp2_with (with_reducible refine ah 69 _ _ rfl ?_)
   refine ak.go ?_;refine ae rfl 69 _ _ rfl (z+2) 0 (.agg #[.int .i64 3,.string ⟨#[]⟩]) [.int .i64 3,.string ⟨#[]⟩] rfl rfl rfl 69 [] [.int .i64 0,.string ⟨#[]⟩] [] (by simpa using HK.later HB2.out) rfl rfl (al _ _) (ax _ _) ?_;intro wz hp;have hbk:Bk wz (z+2) 69 [.int .i64 3,.string ⟨#[]⟩]:=by have:=hp.bk;simpa using this
   have HBKz:=aa hbk;have HBz:=aa (ag (ab HB.out (HB2.out)) hp.only (ab HB.out (HB2.out)).size (by have:=HZ.out;omega));clear hp hbk;go_wp2_with fail
   refine bodyPost_ret (am rfl _ _ (z+2) 69 [.int .i64 3,.string ⟨#[]⟩] _ rfl HBKz.out Tryz.underlying69 rfl (al _ _)) rfl ?_;exact ⟨⟨_,_,rfl⟩,HBz.out⟩
  | true=>
   refine tk 4 ?_;refine tk 5 ?_;refine tk 8 ?_;refine tkv 6 rfl (fun w hSw=>by have hcell:=hSw.2;clear hSw;go_simp;try with_reducible rfl) ?_;refine tkv 9 rfl (fun w hSw=>by have hcell:=hSw.1;clear hSw;go_simp;try with_reducible rfl) ?_;refine tk 7 ?_;refine rd1 10 (fun K hK=>?_);go_simp
   (refine (uj op w2).mono ?_;rintro e w' ⟨⟨m9,rfl⟩,rfl⟩)
   refine so hK (HS2.out) (fun hHeld=>?_);clear hK K;by_cases hq:(N' : Int)=m9;rotate_left
   ·
    refine tk 11 ?_;refine tk 12 ?_;refine wpAnyH_done rfl ?_ _;go_wp2_with (with_reducible refine ah 69 _ _ rfl ?_)
    refine ak.go ?_;refine ae rfl 69 _ _ rfl (z+2) 0 (.agg #[.int .i64 3,.string ⟨#[]⟩]) [.int .i64 3,.string ⟨#[]⟩] rfl rfl rfl 69 [] [.int .i64 0,.string ⟨#[]⟩] [] (by simpa using HK.later HB2.out) rfl rfl (al _ _) (ax _ _) ?_;intro wz hp;have hbk:Bk wz (z+2) 69 [.int .i64 3,.string ⟨#[]⟩]:=by have:=hp.bk;simpa using this
    have HBKz:=aa hbk;have HBz:=aa (ag (ab HB.out (HB2.out)) hp.only (ab HB.out (HB2.out)).size (by have:=HZ.out;omega));clear hp hbk;go_wp2_with fail
    refine bodyPost_ret (am rfl _ _ (z+2) 69 [.int .i64 3,.string ⟨#[]⟩] _ rfl HBKz.out Tryz.underlying69 rfl (al _ _)) rfl ?_;exact ⟨⟨_,_,rfl⟩,HBz.out⟩
   subst hq;refine tk 11 ?_;refine tk 12 ?_;refine wpAnyH_done rfl ?_ _;go_upto_region 3 with fail
   go_cut [30] (fun p wx=>∃b:Bool,p=.bool b∧wx=w2)
   case first=>
    have e0:w2.cell? ⟨z+1,0,none⟩=some (.int .i64 op):=HS2.out.1;have e1:w2.cell? ⟨z+1,1,none⟩=some (.int .i64 n):=(HX.later HB2.out).cell 1;by_cases h0:op=0
    ·subst h0;go_wp2_with fail
     refine (em _ w2).mono ?_;rintro e w' ⟨rfl,rfl⟩;go_wp2_with fail
     go_meet;exact ⟨_,rfl,rfl⟩
    ·go_wp2_with fail
     go_meet;exact ⟨_,rfl,rfl⟩
   obtain ⟨b3,rfl,rfl⟩:=hcut;refine ‹∀(a:Act) (w:World),Code.wp _ _ _ a w→_› _ _ ?_;cases b3 with
   | true=>
    go_wp2_with (with_reducible refine ah 69 _ _ rfl ?_)
    refine ak.go ?_;refine ae rfl 69 _ _ rfl (z+2) 0 (.agg #[.int .i64 2,.string ⟨#[]⟩]) [.int .i64 2,.string ⟨#[]⟩] rfl rfl rfl 69 [] [.int .i64 0,.string ⟨#[]⟩] [] (by simpa using HK.later HB2.out) rfl rfl (al _ _) (ax _ _) ?_;intro wz hp;have hbk:Bk wz (z+2) 69 [.int .i64 2,.string ⟨#[]⟩]:=by have:=hp.bk;simpa using this
    have HBKz:=aa hbk;have HBz:=aa (ag (ab HB.out (HB2.out)) hp.only (ab HB.out (HB2.out)).size (by have:=HZ.out;omega));clear hp hbk;go_wp2_with fail
    refine bodyPost_ret (am rfl _ _ (z+2) 69 [.int .i64 2,.string ⟨#[]⟩] _ rfl HBKz.out Tryz.underlying69 rfl (al _ _)) rfl ?_;exact ⟨⟨_,_,rfl⟩,HBz.out⟩
   | false=>
    go_upto_region 5 with fail
    go_cut [39] (fun p wx=>∃b:Bool,p=.bool b∧wx=wc)
    case first=>
     have e0:wc.cell? ⟨z+1,0,none⟩=some (.int .i64 op):=HS2.out.1;by_cases h1:op=1
     ·subst h1;go_wp2_with fail
      go_meet;exact ⟨_,rfl,rfl⟩
     ·by_cases h2:op=2
      ·subst h2;go_wp2_with fail
       go_meet;exact ⟨_,rfl,rfl⟩
      ·go_wp2_with fail
       go_meet;exact ⟨_,rfl,rfl⟩
    obtain ⟨b5,rfl,rfl⟩:=hcut;refine ‹∀(a:Act) (w:World),Code.wp _ _ _ a w→_› _ _ ?_;obtain ⟨w3,rfl⟩:∃x,x=wc:=⟨_,rfl⟩;go_upto_if 39 with fail
    go_cut [] (fun wx=>Hid (Below w1.heap.size w1 wx))
    case first=>
     cases b5 with
     | false=>
      go_wp2_with fail
      go_meet;exact HB2.out
     | true=>
      have c2:w3.cell? ⟨z+1,2,none⟩=some (.string nm):=(HX.later HB2.out).cell 2;go_wp2_with (with_reducible refine aj rfl 128 _ rfl z rfl (kwC p A N C) 128 (HKW.out.later HB2.out) _ Tryz.underlying128 rfl (dy _ _ _ _) ?_)
      refine (gE w3 p A N C l nm (HKN.later HB2.out) hNb).mono ?_;rintro e w4 ⟨⟨s,rfl⟩,hbn⟩;have HB4:=aa (ab HB2.out hbn);clear hbn c2;have c2:w4.cell? ⟨z+1,2,none⟩=some (.string nm):=(HX.later HB4.out).cell 2;have c0:w4.cell? ⟨z+1,0,none⟩=some (.int .i64 op):=(HX.later HB4.out).cell 0;cases hs:(s == 0) with
      | true=>
       go_wp2_with (with_reducible refine ah 69 _ _ rfl ?_)
       refine ak.go ?_;refine ae rfl 69 _ _ rfl (z+2) 0 (.agg #[.int .i64 6,.string nm]) [.int .i64 6,.string nm] rfl rfl rfl 69 [] [.int .i64 0,.string ⟨#[]⟩] [] (by simpa using HK.later HB4.out) rfl rfl (al _ _) (ax _ _) ?_;intro wz hp;have hbk:Bk wz (z+2) 69 [.int .i64 6,.string nm]:=by have:=hp.bk;simpa using this
       have HBKz:=aa hbk;have HBz:=aa (ag (ab HB.out (HB4.out)) hp.only (ab HB.out (HB4.out)).size (by have:=HZ.out;omega));clear hp hbk;go_wp2_with fail
       refine bodyPost_ret (am rfl _ _ (z+2) 69 [.int .i64 6,.string nm] _ rfl HBKz.out Tryz.underlying69 rfl (al _ _)) rfl ?_;exact ⟨⟨_,_,rfl⟩,HBz.out⟩
      | false=>
       cases hs2:(s == 2) with
       | true=>
        cases ho2:(op == 2) with
        | true=>
         go_wp2_with fail
         go_meet;exact HB4.out
        | false=>
         go_wp2_with (with_reducible refine ah 69 _ _ rfl ?_)
         refine ak.go ?_;refine ae rfl 69 _ _ rfl (z+2) 0 (.agg #[.int .i64 11,.string nm]) [.int .i64 11,.string nm] rfl rfl rfl 69 [] [.int .i64 0,.string ⟨#[]⟩] [] (by simpa using HK.later HB4.out) rfl rfl (al _ _) (ax _ _) ?_;intro wz hp;have hbk:Bk wz (z+2) 69 [.int .i64 11,.string nm]:=by have:=hp.bk;simpa using this
         have HBKz:=aa hbk;have HBz:=aa (ag (ab HB.out (HB4.out)) hp.only (ab HB.out (HB4.out)).size (by have:=HZ.out;omega));clear hp hbk;go_wp2_with fail
         refine bodyPost_ret (am rfl _ _ (z+2) 69 [.int .i64 11,.string nm] _ rfl HBKz.out Tryz.underlying69 rfl (al _ _)) rfl ?_;exact ⟨⟨_,_,rfl⟩,HBz.out⟩
       | false=>
        cases ho2:(op == 2) with
        | true=>
         go_wp2_with (with_reducible refine ah 69 _ _ rfl ?_)
         refine ak.go ?_;refine ae rfl 69 _ _ rfl (z+2) 0 (.agg #[.int .i64 11,.string nm]) [.int .i64 11,.string nm] rfl rfl rfl 69 [] [.int .i64 0,.string ⟨#[]⟩] [] (by simpa using HK.later HB4.out) rfl rfl (al _ _) (ax _ _) ?_;intro wz hp;have hbk:Bk wz (z+2) 69 [.int .i64 11,.string nm]:=by have:=hp.bk;simpa using this
         have HBKz:=aa hbk;have HBz:=aa (ag (ab HB.out (HB4.out)) hp.only (ab HB.out (HB4.out)).size (by have:=HZ.out;omega));clear hp hbk;go_wp2_with fail
         refine bodyPost_ret (am rfl _ _ (z+2) 69 [.int .i64 11,.string nm] _ rfl HBKz.out Tryz.underlying69 rfl (al _ _)) rfl ?_;exact ⟨⟨_,_,rfl⟩,HBz.out⟩
        | false=>
         go_wp2_with fail
         go_meet;exact HB4.out
    have HB4:=aa hcut.out;refine ‹∀(a:Act) (w:World),Code.wp _ _ _ a w→_› _ _ ?_;go_wp2_with fail
    go_loopw [6,7] (fun i _ wr=>∃(k:Nat),k≤N'∧i=.int .i64 k∧Hid (Below w1.heap.size w1 wr)) (fun i _ _=>N' - (intOf i).toNat)
    case atStart=>exact ⟨0,Nat.zero_le _,rfl,HB4.out⟩
    case round=>
     obtain ⟨k,hk,rfl,hB⟩:=hrel;have c3:wr.cell? ⟨z+1,3,none⟩=some (.slice A' N' C'):=(HX.later hB.out).cell 3;by_cases hlt:k < N'
     ·obtain ⟨b,o,op',n',nm',A2,N2,C2,kids,rest,hA,hb,hr,e1,e2,hkd,_,_,_,_,hks⟩:=HF0.spot hlt;subst hA;have HR1:=aa hr;have HB0:=aa hb;have hkN:(k:Int) < N':=by omega
      have HC:Hid (∀wk,Below w1.heap.size w1 wk→Calls Tryz.prog 195 #[.agg (kwC p A N C).toArray,.agg (exC op' n' nm' A2 N2 C2).toArray] wk fun e w'=>iJ e∧Below wk.heap.size wk w'):=fun wk hb=>HIH.out kids.size (by have:=HM.out;omega) kids rfl wk p A N C l op' n' nm' A2 N2 C2 (HKN.later hb) hNb ((hkd.more HB.size).later hb) (by omega);have HS:Hid (∀wk,Below w1.heap.size w1 wk→(Bk wk z 128 (kwC p A N C)∧wk.cell? ⟨z+1,3,none⟩=some (.slice (some ⟨b,o,none⟩) N' C')∧wk.rangeAt b (o+k*4) (exC op' n' nm' A2 N2 C2))):=fun wk hb=>⟨HKW.later hb,(HX.later hb).cell 3,eo HR1.out hb (Nat.lt_of_lt_of_le HB0.out HB.size)⟩;clear hkd hr e1 e2 hb;go_wp2_with fail
      clear c3;go_cut [7] from 58 to 75 (fun p7 wx=>∃(gf:Nat) (fn:Int) (fs:ByteArray),p7=.pointer (some ⟨gf,0,none⟩)∧Hid (Bk wx gf 69 [.int .i64 fn,.string fs])∧Hid (Below w1.heap.size w1 wx))
      case first=>
       refine wp_region_held_drew (S:=fun wk=>Bk wk z 128 (kwC p A N C)∧wk.cell? ⟨z+1,3,none⟩=some (.slice (some ⟨b,o,none⟩) N' C')∧wk.rangeAt b (o+k*4) (exC op' n' nm' A2 N2 C2)) (by kernel_rfl) (HS.out _ (ab hB.out (ac wr wr.heap.size 1))) (fun hHeld=>?_);obtain ⟨w5,hw5⟩:∃wa,wr.drew=wa:=⟨_,rfl⟩;have hb5:Below wr.heap.size wr w5:=hw5▸ac wr wr.heap.size 1;rw [hw5] at hHeld ⊢;have HB5:=aa (ab hB.out hb5);clear hw5 hb5;refine tkR 0 (kwC p A N C) (fun w hSw=>(Bk.range (pre:=[]) (post:=[]) (by simpa using hSw.1) rfl)) Tryz.underlying128 ((dy _ _ _ _)) ?_;refine tk 1 ?_;refine tk 3 ?_;refine tkv 2 rfl (fun w hSw=>by have hcell:=hSw.2.1;clear hSw;go_simp;try with_reducible rfl) ?_;refine tk 4 ?_;refine tkR 5 (exC op' n' nm' A2 N2 C2) (fun w hSw=>hSw.2.2) Tryz.underlying255 ((oJ _ _ _ _ _ _)) ?_;refine wpAnyH_ready (rs:=[6,7]) (by kernel_rfl) (by simp) ?_;refine AllReadyH.cons rfl (fun Kx hK=>?_) (AllReadyH.cons rfl (fun Kx hK=>?_) AllReadyH.nil)
       ·go_simp;refine (HC.out w5 HB5.out).mono ?_;rintro e wa ⟨⟨fn,fs,rfl⟩,hbn⟩;have HBa:=aa (ab HB5.out hbn);clear hbn;refine so hK (HS.out wa HBa.out) (fun hHeld=>?_);clear hK Kx;refine wpAnyH_ready (rs:=[7]) (by kernel_rfl) (by simp) ?_;refine AllReadyH.cons rfl (fun Kx hK=>?_) AllReadyH.nil;go_simp;obtain ⟨gf,hgf⟩:∃q,wa.heap.size=q:=⟨_,rfl⟩;obtain ⟨wb,hwb⟩:∃wx,wa.alloc (.cells #[.int .i64 0,.string ⟨#[]⟩] 69)=wx:=⟨_,rfl⟩;have hbn:Below wa.heap.size wa wb:=hwb▸ai wa _;have HKFb:Hid (Bk wb gf 69 [.int .i64 0,.string ⟨#[]⟩]):=by show Bk _ _ _ _;rw [←hwb,←hgf];exact Bk.new' _ _ _ rfl
        have HGF:Hid (w1.heap.size≤gf):=by have:=HBa.size;show _≤_;omega
        have HBb:=aa (ab HBa.out hbn);rw [hwb,hgf];clear hwb hgf hbn;refine so hK (HS.out wb HBb.out) (fun hHeld=>?_);clear hK Kx;refine rdw 8 (fun K hK=>?_);refine au _ _ _ rfl gf 0 (.agg #[.int .i64 fn,.string fs]) [.int .i64 fn,.string fs] rfl rfl rfl _ [] [.int .i64 0,.string ⟨#[]⟩] [] (by simpa using HKFb.out) rfl rfl (al _ _) (ax _ _) ?_;intro wz hp;have hbk:Bk wz gf 69 [.int .i64 fn,.string fs]:=by have:=hp.bk;simpa using this
        have HKz:=aa hbk;have HBz:=aa (ag HBb.out hp.only HBb.size HGF.out);clear hp hbk;refine so hK (HS.out wz HBz.out) (fun hHeld=>?_);clear hK K;refine wpAnyH_done rfl ?_ _;go_wp2_with fail
        go_meet;exact ⟨gf,fn,fs,rfl,HKz.out,HBz.out⟩
       ·
        go_simp;obtain ⟨gf,hgf⟩:∃q,w5.heap.size=q:=⟨_,rfl⟩;obtain ⟨wb,hwb⟩:∃wx,w5.alloc (.cells #[.int .i64 0,.string ⟨#[]⟩] 69)=wx:=⟨_,rfl⟩;have hbn:Below w5.heap.size w5 wb:=hwb▸ai w5 _;have HKFb:Hid (Bk wb gf 69 [.int .i64 0,.string ⟨#[]⟩]):=by show Bk _ _ _ _;rw [←hwb,←hgf];exact Bk.new' _ _ _ rfl
        have HGF:Hid (w1.heap.size≤gf):=by have:=HB5.size;show _≤_;omega
        have HBb:=aa (ab HB5.out hbn);rw [hwb,hgf];clear hwb hgf hbn;refine so hK (HS.out wb HBb.out) (fun hHeld=>?_);clear hK Kx;refine wpAnyH_ready (rs:=[6]) (by kernel_rfl) (by simp) ?_;refine AllReadyH.cons rfl (fun Kx hK=>?_) AllReadyH.nil;go_simp;refine (HC.out wb HBb.out).mono ?_;rintro e wd ⟨⟨fn,fs,rfl⟩,hbn⟩;have HBd:=aa (ab HBb.out hbn);have HKFd:=aa (HKFb.later hbn);clear hbn;refine so hK (HS.out wd HBd.out) (fun hHeld=>?_);clear hK Kx;refine rdw 8 (fun K hK=>?_);refine au _ _ _ rfl gf 0 (.agg #[.int .i64 fn,.string fs]) [.int .i64 fn,.string fs] rfl rfl rfl _ [] [.int .i64 0,.string ⟨#[]⟩] [] (by simpa using HKFd.out) rfl rfl (al _ _) (ax _ _) ?_;intro wz hp;have hbk:Bk wz gf 69 [.int .i64 fn,.string fs]:=by have:=hp.bk;simpa using this
        have HKz:=aa hbk;have HBz:=aa (ag HBd.out hp.only HBd.size HGF.out);clear hp hbk;refine so hK (HS.out wz HBz.out) (fun hHeld=>?_);clear hK K;refine wpAnyH_done rfl ?_ _;go_wp2_with fail
        go_meet;exact ⟨gf,fn,fs,rfl,HKz.out,HBz.out⟩
      obtain ⟨gfq,fnq,fsq,rfl,HKFq,HBbq⟩:=hcut;obtain ⟨wbq,rfl⟩:∃x,x=wc:=⟨_,rfl⟩;refine ‹∀(a:Act) (w:World),Code.wp _ _ _ a w→_› _ _ ?_;go_wp2_with fail
      refine wp_region_held_drew (S:=fun wk=>Bk wk gfq 69 [.int .i64 fnq,.string fsq]) (by kernel_rfl) (HKFq.later (ac wbq _ 1)) (fun hHeld=>?_);obtain ⟨wcq,hwc⟩:∃wx,wbq.drew=wx:=⟨_,rfl⟩;have hb:Below wbq.heap.size wbq wcq:=hwc▸ac wbq wbq.heap.size 1;rw [hwc] at hHeld ⊢;have HBcq:=aa (ab HBbq.out hb);have HKcq:=aa (HKFq.later hb);clear hwc hb;refine tkR 0 ([.int .i64 fnq,.string fsq]) (fun w hSw=>(Bk.range (pre:=[]) (post:=[]) (by simpa using hSw) rfl)) Tryz.underlying69 ((al _ _)) ?_;refine rd1 1 (fun K hK=>?_);go_simp
      (refine (ca wcq).mono ?_;rintro e wdq ⟨rfl,hbn⟩;have HBdq:=aa (ab HBcq.out hbn);have HKdq:=aa (HKcq.later hbn);clear hbn)
      refine so hK (HKdq.out) (fun hHeld=>?_);clear hK K;obtain ⟨qfq,hqf⟩:=kj fnq fsq;refine tk 2 ?_;clear hqf;refine wpAnyH_done rfl ?_ _;cases qfq with
      | false=>
       go_wp2_with (first | (with_reducible refine aj rfl 69 _ rfl gfq rfl [.int .i64 fnq,.string fsq] 69 HKdq.out _ Tryz.underlying69 rfl (al _ _) ?_) | (with_reducible refine ah 69 _ _ rfl ?_))
       refine ak.go ?_;refine ae rfl 69 _ _ rfl (z+2) 0 (.agg #[.int .i64 fnq,.string fsq]) [.int .i64 fnq,.string fsq] rfl rfl rfl 69 [] [.int .i64 0,.string ⟨#[]⟩] [] (by simpa using HK.later HBdq.out) rfl rfl (al _ _) (ax _ _) ?_;intro wz hp;have hbk:Bk wz (z+2) 69 [.int .i64 fnq,.string fsq]:=by have:=hp.bk;simpa using this
       have HBKz:=aa hbk;have HBz:=aa (ag (ab HB.out (HBdq.out)) hp.only (ab HB.out (HBdq.out)).size (by have:=HZ.out;omega));clear hp hbk;go_wp2_with fail
       refine bodyPost_ret (am rfl _ _ (z+2) 69 [.int .i64 fnq,.string fsq] _ rfl HBKz.out Tryz.underlying69 rfl (al _ _)) rfl ?_;exact ⟨⟨_,_,rfl⟩,HBz.out⟩
      | true=>
       go_wp2_with fail
       go_roundw
       case rel=>exact ⟨k+1,by omega,by go_num,HBdq.out⟩
       case measure=>simp [intOf];omega
     ·
      go_wp2_with fail
      refine (ca _).mono ?_;rintro e wf ⟨rfl,hbn⟩;have HBf:=aa (ab hB.out hbn);clear hbn;go_wp2_with (with_reducible refine ah 69 _ _ rfl ?_)
      refine ak.go ?_;refine ae rfl 69 _ _ rfl (z+2) 0 (.agg #[.int .i64 0,.string ⟨#[]⟩]) [.int .i64 0,.string ⟨#[]⟩] rfl rfl rfl 69 [] [.int .i64 0,.string ⟨#[]⟩] [] (by simpa using HK.later HBf.out) rfl rfl (al _ _) (ax _ _) ?_;intro wz hp;have hbk:Bk wz (z+2) 69 [.int .i64 0,.string ⟨#[]⟩]:=by have:=hp.bk;simpa using this
      have HBKz:=aa hbk;have HBz:=aa (ag (ab HB.out (HBf.out)) hp.only (ab HB.out (HBf.out)).size (by have:=HZ.out;omega));clear hp hbk;go_wp2_with fail
      refine bodyPost_ret (am rfl _ _ (z+2) 69 [.int .i64 0,.string ⟨#[]⟩] _ rfl HBKz.out Tryz.underlying69 rfl (al _ _)) rfl ?_;exact ⟨⟨_,_,rfl⟩,HBz.out⟩
theorem lj (kd:Int) (nm:ByteArray) (A:Option Addr) (N C:Nat) (lo hi:Int) (A1:Option Addr) (N1 C1:Nat) (A2:Option Addr) (N2 C2:Nat):(Tryz.prog.info? 133).map (·.size)=some (aR kd nm A N C lo hi A1 N1 C1 A2 N2 C2).length:=(show (Tryz.prog.info? 133).map (·.size)=some 7 by kernel_rfl)
set_option maxRecDepth 20000 in
set_option maxHeartbeats 2000000 in
theorem rV (w:World) (p:PgT) (A:Option Addr) (N C:Nat) (l:List ByteArray) (kd:Int) (nm:ByteArray) (A0:Option Addr) (N0 C0:Nat) (lo hi:Int) (A1:Option Addr) (N1 C1:Nat) (A2:Option Addr) (N2 C2:Nat) (deep:Int) (hkn:kk w w.heap.size p A N C l) (hNb:N≤4194304) (hnm:nm.size≤1048576):Calls Tryz.prog 193 #[.agg (kwC p A N C).toArray,.agg (aR kd nm A0 N0 C0 lo hi A1 N1 C1 A2 N2 C2).toArray,.int .i64 deep] w fun e w'=>iJ e∧Below w.heap.size w w':=by
 obtain ⟨z,hz⟩:∃z,w.heap.size=z:=⟨_,rfl⟩;obtain ⟨w1,hw1⟩:∃w1,((w.alloc (.cells (kwC p A N C).toArray 128)).alloc (.cells (aR kd nm A0 N0 C0 lo hi A1 N1 C1 A2 N2 C2).toArray 133)).alloc (.cells #[.int .i64 0,.string ⟨#[]⟩] 69)=w1:=⟨_,rfl⟩;have hk:Bk w1 z 128 (kwC p A N C):=hw1▸((Bk.at_ w _ _ hz rfl).alloc _).alloc _;have hx:Bk w1 (z+1) 133 (aR kd nm A0 N0 C0 lo hi A1 N1 C1 A2 N2 C2):=hw1▸(Bk.at_ _ _ _ (by simp [hz]) rfl).alloc _;have hf:Bk w1 (z+2) 69 [.int .i64 0,.string ⟨#[]⟩]:=hw1▸Bk.at_ _ _ _ (by simp [hz]) rfl;have hb:Below w.heap.size w w1:=hw1▸((ai w _).alloc (by simp) _).alloc (by simp;omega) _;have HW:=aa hw1;have HZ:=aa hz;have HB:=aa hb;have HKW:=aa hk;have HX:=aa hx;have HK:=aa hf;have HKN:=aa (hkn.later hb);have hbf:=fK;have hbf1:=jg;clear hw1 hz hb hk hx hf hkn;go_enter Tryz.func193,Tryz.ntmps193;go_upto_region 1 with fail
 rw [HW.out,HZ.out];have d0:w1.cell? ⟨z+1,0,none⟩=some (.int .i64 kd):=HX.cell 0;by_cases h0:kd=0
 ·subst h0;have HB1:=aa (Below.refl w1.heap.size w1);have c1:w1.cell? ⟨z+1,1,none⟩=some (.string nm):=HX.cell 1;go_wp2_with (with_reducible refine aj rfl 128 _ rfl z rfl (kwC p A N C) 128 (HKW.out.later HB1.out) _ Tryz.underlying128 rfl (dy _ _ _ _) ?_)
  refine (gE w1 p A N C l nm (HKN.later HB1.out) hNb).mono ?_;rintro e w2 ⟨⟨s,rfl⟩,hbn⟩;have HB2:=aa (ab HB1.out hbn);clear hbn c1;have c1:w2.cell? ⟨z+1,1,none⟩=some (.string nm):=(HX.later HB2.out).cell 1;have c0:w2.cell? ⟨z+1,0,none⟩=some (.int .i64 0):=(HX.later HB2.out).cell 0;by_cases hs:s=0
  ·subst hs;go_wp2_with (with_reducible refine ah 69 _ _ rfl ?_)
   refine ak.go ?_;refine ae rfl 69 _ _ rfl (z+2) 0 (.agg #[.int .i64 6,.string nm]) [.int .i64 6,.string nm] rfl rfl rfl 69 [] [.int .i64 0,.string ⟨#[]⟩] [] (by simpa using HK.later HB2.out) rfl rfl (al _ _) (ax _ _) ?_;intro wz hp;have hbk:Bk wz (z+2) 69 [.int .i64 6,.string nm]:=by have:=hp.bk;simpa using this
   have HBKz:=aa hbk;have HBz:=aa (ag (ab HB.out (HB2.out)) hp.only (ab HB.out (HB2.out)).size (by have:=HZ.out;omega));clear hp hbk;go_wp2_with fail
   refine bodyPost_ret (am rfl _ _ (z+2) 69 [.int .i64 6,.string nm] _ rfl HBKz.out Tryz.underlying69 rfl (al _ _)) rfl ?_;exact ⟨⟨_,_,rfl⟩,HBz.out⟩
  by_cases hs2:s=1;rotate_left
  ·
   go_wp2_with (with_reducible refine ah 69 _ _ rfl ?_)
   refine ak.go ?_;refine ae rfl 69 _ _ rfl (z+2) 0 (.agg #[.int .i64 11,.string nm]) [.int .i64 11,.string nm] rfl rfl rfl 69 [] [.int .i64 0,.string ⟨#[]⟩] [] (by simpa using HK.later HB2.out) rfl rfl (al _ _) (ax _ _) ?_;intro wz hp;have hbk:Bk wz (z+2) 69 [.int .i64 11,.string nm]:=by have:=hp.bk;simpa using this
   have HBKz:=aa hbk;have HBz:=aa (ag (ab HB.out (HB2.out)) hp.only (ab HB.out (HB2.out)).size (by have:=HZ.out;omega));clear hp hbk;go_wp2_with fail
   refine bodyPost_ret (am rfl _ _ (z+2) 69 [.int .i64 11,.string nm] _ rfl HBKz.out Tryz.underlying69 rfl (al _ _)) rfl ?_;exact ⟨⟨_,_,rfl⟩,HBz.out⟩
  subst hs2;go_wp2_with fail
  refine (ca _).mono ?_;rintro e wf ⟨rfl,hbn⟩;have HBf:=aa (ab HB2.out hbn);clear hbn;go_wp2_with (with_reducible refine ah 69 _ _ rfl ?_)
  refine ak.go ?_;refine ae rfl 69 _ _ rfl (z+2) 0 (.agg #[.int .i64 0,.string ⟨#[]⟩]) [.int .i64 0,.string ⟨#[]⟩] rfl rfl rfl 69 [] [.int .i64 0,.string ⟨#[]⟩] [] (by simpa using HK.later HBf.out) rfl rfl (al _ _) (ax _ _) ?_;intro wz hp;have hbk:Bk wz (z+2) 69 [.int .i64 0,.string ⟨#[]⟩]:=by have:=hp.bk;simpa using this
  have HBKz:=aa hbk;have HBz:=aa (ag (ab HB.out (HBf.out)) hp.only (ab HB.out (HBf.out)).size (by have:=HZ.out;omega));clear hp hbk;go_wp2_with fail
  refine bodyPost_ret (am rfl _ _ (z+2) 69 [.int .i64 0,.string ⟨#[]⟩] _ rfl HBKz.out Tryz.underlying69 rfl (al _ _)) rfl ?_;exact ⟨⟨_,_,rfl⟩,HBz.out⟩
 by_cases h1:kd=1
 ·subst h1;have HB1:=aa (Below.refl w1.heap.size w1);have c1:w1.cell? ⟨z+1,1,none⟩=some (.string nm):=HX.cell 1;go_wp2_with (with_reducible refine aj rfl 128 _ rfl z rfl (kwC p A N C) 128 (HKW.out.later HB1.out) _ Tryz.underlying128 rfl (dy _ _ _ _) ?_)
  refine (gE w1 p A N C l nm (HKN.later HB1.out) hNb).mono ?_;rintro e w2 ⟨⟨s,rfl⟩,hbn⟩;have HB2:=aa (ab HB1.out hbn);clear hbn c1;have c1:w2.cell? ⟨z+1,1,none⟩=some (.string nm):=(HX.later HB2.out).cell 1;have c0:w2.cell? ⟨z+1,0,none⟩=some (.int .i64 1):=(HX.later HB2.out).cell 0;by_cases hs:s=0
  ·subst hs;go_wp2_with (with_reducible refine ah 69 _ _ rfl ?_)
   refine ak.go ?_;refine ae rfl 69 _ _ rfl (z+2) 0 (.agg #[.int .i64 6,.string nm]) [.int .i64 6,.string nm] rfl rfl rfl 69 [] [.int .i64 0,.string ⟨#[]⟩] [] (by simpa using HK.later HB2.out) rfl rfl (al _ _) (ax _ _) ?_;intro wz hp;have hbk:Bk wz (z+2) 69 [.int .i64 6,.string nm]:=by have:=hp.bk;simpa using this
   have HBKz:=aa hbk;have HBz:=aa (ag (ab HB.out (HB2.out)) hp.only (ab HB.out (HB2.out)).size (by have:=HZ.out;omega));clear hp hbk;go_wp2_with fail
   refine bodyPost_ret (am rfl _ _ (z+2) 69 [.int .i64 6,.string nm] _ rfl HBKz.out Tryz.underlying69 rfl (al _ _)) rfl ?_;exact ⟨⟨_,_,rfl⟩,HBz.out⟩
  by_cases hs2:s=2;rotate_left
  ·
   go_wp2_with (with_reducible refine ah 69 _ _ rfl ?_)
   refine ak.go ?_;refine ae rfl 69 _ _ rfl (z+2) 0 (.agg #[.int .i64 11,.string nm]) [.int .i64 11,.string nm] rfl rfl rfl 69 [] [.int .i64 0,.string ⟨#[]⟩] [] (by simpa using HK.later HB2.out) rfl rfl (al _ _) (ax _ _) ?_;intro wz hp;have hbk:Bk wz (z+2) 69 [.int .i64 11,.string nm]:=by have:=hp.bk;simpa using this
   have HBKz:=aa hbk;have HBz:=aa (ag (ab HB.out (HB2.out)) hp.only (ab HB.out (HB2.out)).size (by have:=HZ.out;omega));clear hp hbk;go_wp2_with fail
   refine bodyPost_ret (am rfl _ _ (z+2) 69 [.int .i64 11,.string nm] _ rfl HBKz.out Tryz.underlying69 rfl (al _ _)) rfl ?_;exact ⟨⟨_,_,rfl⟩,HBz.out⟩
  subst hs2;go_wp2_with fail
  refine (ca _).mono ?_;rintro e wf ⟨rfl,hbn⟩;have HBf:=aa (ab HB2.out hbn);clear hbn;go_wp2_with (with_reducible refine ah 69 _ _ rfl ?_)
  refine ak.go ?_;refine ae rfl 69 _ _ rfl (z+2) 0 (.agg #[.int .i64 0,.string ⟨#[]⟩]) [.int .i64 0,.string ⟨#[]⟩] rfl rfl rfl 69 [] [.int .i64 0,.string ⟨#[]⟩] [] (by simpa using HK.later HBf.out) rfl rfl (al _ _) (ax _ _) ?_;intro wz hp;have hbk:Bk wz (z+2) 69 [.int .i64 0,.string ⟨#[]⟩]:=by have:=hp.bk;simpa using this
  have HBKz:=aa hbk;have HBz:=aa (ag (ab HB.out (HBf.out)) hp.only (ab HB.out (HBf.out)).size (by have:=HZ.out;omega));clear hp hbk;go_wp2_with fail
  refine bodyPost_ret (am rfl _ _ (z+2) 69 [.int .i64 0,.string ⟨#[]⟩] _ rfl HBKz.out Tryz.underlying69 rfl (al _ _)) rfl ?_;exact ⟨⟨_,_,rfl⟩,HBz.out⟩
 by_cases h5:kd=5
 ·subst h5;have HB1:=aa (Below.refl w1.heap.size w1);have c1:w1.cell? ⟨z+1,1,none⟩=some (.string nm):=HX.cell 1;go_wp2_with (with_reducible refine aj rfl 128 _ rfl z rfl (kwC p A N C) 128 (HKW.out.later HB1.out) _ Tryz.underlying128 rfl (dy _ _ _ _) ?_)
  refine (gE w1 p A N C l nm (HKN.later HB1.out) hNb).mono ?_;rintro e w2 ⟨⟨s,rfl⟩,hbn⟩;have HB2:=aa (ab HB1.out hbn);clear hbn c1;have c1:w2.cell? ⟨z+1,1,none⟩=some (.string nm):=(HX.later HB2.out).cell 1;have c0:w2.cell? ⟨z+1,0,none⟩=some (.int .i64 5):=(HX.later HB2.out).cell 0;by_cases hs:s=0
  ·subst hs;go_wp2_with (with_reducible refine ah 69 _ _ rfl ?_)
   refine ak.go ?_;refine ae rfl 69 _ _ rfl (z+2) 0 (.agg #[.int .i64 6,.string nm]) [.int .i64 6,.string nm] rfl rfl rfl 69 [] [.int .i64 0,.string ⟨#[]⟩] [] (by simpa using HK.later HB2.out) rfl rfl (al _ _) (ax _ _) ?_;intro wz hp;have hbk:Bk wz (z+2) 69 [.int .i64 6,.string nm]:=by have:=hp.bk;simpa using this
   have HBKz:=aa hbk;have HBz:=aa (ag (ab HB.out (HB2.out)) hp.only (ab HB.out (HB2.out)).size (by have:=HZ.out;omega));clear hp hbk;go_wp2_with fail
   refine bodyPost_ret (am rfl _ _ (z+2) 69 [.int .i64 6,.string nm] _ rfl HBKz.out Tryz.underlying69 rfl (al _ _)) rfl ?_;exact ⟨⟨_,_,rfl⟩,HBz.out⟩
  by_cases hs2:s=1;rotate_left
  ·
   go_wp2_with (with_reducible refine ah 69 _ _ rfl ?_)
   refine ak.go ?_;refine ae rfl 69 _ _ rfl (z+2) 0 (.agg #[.int .i64 11,.string nm]) [.int .i64 11,.string nm] rfl rfl rfl 69 [] [.int .i64 0,.string ⟨#[]⟩] [] (by simpa using HK.later HB2.out) rfl rfl (al _ _) (ax _ _) ?_;intro wz hp;have hbk:Bk wz (z+2) 69 [.int .i64 11,.string nm]:=by have:=hp.bk;simpa using this
   have HBKz:=aa hbk;have HBz:=aa (ag (ab HB.out (HB2.out)) hp.only (ab HB.out (HB2.out)).size (by have:=HZ.out;omega));clear hp hbk;go_wp2_with fail
   refine bodyPost_ret (am rfl _ _ (z+2) 69 [.int .i64 11,.string nm] _ rfl HBKz.out Tryz.underlying69 rfl (al _ _)) rfl ?_;exact ⟨⟨_,_,rfl⟩,HBz.out⟩
  subst hs2;have c3:w2.cell? ⟨z+1,3,none⟩=some (.int .i64 lo):=(HX.later HB2.out).cell 3;go_wp2_with fail
  refine (gZ _ _ _ w2).mono ?_;rintro e w' ⟨rfl,rfl⟩;cases dt lo 2 1000 with
  | false=>
   go_wp2_with (with_reducible refine ah 69 _ _ rfl ?_)
   refine ak.go ?_;refine ae rfl 69 _ _ rfl (z+2) 0 (.agg #[.int .i64 2,.string nm]) [.int .i64 2,.string nm] rfl rfl rfl 69 [] [.int .i64 0,.string ⟨#[]⟩] [] (by simpa using HK.later HB2.out) rfl rfl (al _ _) (ax _ _) ?_;intro wz hp;have hbk:Bk wz (z+2) 69 [.int .i64 2,.string nm]:=by have:=hp.bk;simpa using this
   have HBKz:=aa hbk;have HBz:=aa (ag (ab HB.out (HB2.out)) hp.only (ab HB.out (HB2.out)).size (by have:=HZ.out;omega));clear hp hbk;go_wp2_with fail
   refine bodyPost_ret (am rfl _ _ (z+2) 69 [.int .i64 2,.string nm] _ rfl HBKz.out Tryz.underlying69 rfl (al _ _)) rfl ?_;exact ⟨⟨_,_,rfl⟩,HBz.out⟩
  | true=>
   go_wp2_with fail
   refine (ca _).mono ?_;rintro e wf ⟨rfl,hbn⟩;have HBf:=aa (ab HB2.out hbn);clear hbn;go_wp2_with (with_reducible refine ah 69 _ _ rfl ?_)
   refine ak.go ?_;refine ae rfl 69 _ _ rfl (z+2) 0 (.agg #[.int .i64 0,.string ⟨#[]⟩]) [.int .i64 0,.string ⟨#[]⟩] rfl rfl rfl 69 [] [.int .i64 0,.string ⟨#[]⟩] [] (by simpa using HK.later HBf.out) rfl rfl (al _ _) (ax _ _) ?_;intro wz hp;have hbk:Bk wz (z+2) 69 [.int .i64 0,.string ⟨#[]⟩]:=by have:=hp.bk;simpa using this
   have HBKz:=aa hbk;have HBz:=aa (ag (ab HB.out (HBf.out)) hp.only (ab HB.out (HBf.out)).size (by have:=HZ.out;omega));clear hp hbk;go_wp2_with fail
   refine bodyPost_ret (am rfl _ _ (z+2) 69 [.int .i64 0,.string ⟨#[]⟩] _ rfl HBKz.out Tryz.underlying69 rfl (al _ _)) rfl ?_;exact ⟨⟨_,_,rfl⟩,HBz.out⟩
 by_cases h3:kd=3
 ·subst h3;have c1:w1.cell? ⟨z+1,1,none⟩=some (.string nm):=HX.cell 1;go_wp2_with fail
  refine (fu nm hnm w1).mono ?_;rintro e w2 ⟨⟨y,rfl⟩,hbn⟩;have HB2:=aa hbn;clear hbn c1;have c1:w2.cell? ⟨z+1,1,none⟩=some (.string nm):=(HX.later HB2.out).cell 1;cases y with
  | false=>
   go_wp2_with (with_reducible refine ah 69 _ _ rfl ?_)
   refine ak.go ?_;refine ae rfl 69 _ _ rfl (z+2) 0 (.agg #[.int .i64 6,.string nm]) [.int .i64 6,.string nm] rfl rfl rfl 69 [] [.int .i64 0,.string ⟨#[]⟩] [] (by simpa using HK.later HB2.out) rfl rfl (al _ _) (ax _ _) ?_;intro wz hp;have hbk:Bk wz (z+2) 69 [.int .i64 6,.string nm]:=by have:=hp.bk;simpa using this
   have HBKz:=aa hbk;have HBz:=aa (ag (ab HB.out (HB2.out)) hp.only (ab HB.out (HB2.out)).size (by have:=HZ.out;omega));clear hp hbk;go_wp2_with fail
   refine bodyPost_ret (am rfl _ _ (z+2) 69 [.int .i64 6,.string nm] _ rfl HBKz.out Tryz.underlying69 rfl (al _ _)) rfl ?_;exact ⟨⟨_,_,rfl⟩,HBz.out⟩
  | true=>
   go_wp2_with (with_reducible refine aj rfl 128 _ rfl z rfl (kwC p A N C) 128 (HKW.out.later HB2.out) _ Tryz.underlying128 rfl (dy _ _ _ _) ?_)
   refine (gE w2 p A N C l nm (HKN.later HB2.out) hNb).mono ?_;rintro e w3 ⟨⟨s,rfl⟩,hbn⟩;have HB3:=aa (ab HB2.out hbn);clear hbn c1;have c1:w3.cell? ⟨z+1,1,none⟩=some (.string nm):=(HX.later HB3.out).cell 1;by_cases hs:s=0;rotate_left
   ·
    go_wp2_with (with_reducible refine ah 69 _ _ rfl ?_)
    refine ak.go ?_;refine ae rfl 69 _ _ rfl (z+2) 0 (.agg #[.int .i64 7,.string nm]) [.int .i64 7,.string nm] rfl rfl rfl 69 [] [.int .i64 0,.string ⟨#[]⟩] [] (by simpa using HK.later HB3.out) rfl rfl (al _ _) (ax _ _) ?_;intro wz hp;have hbk:Bk wz (z+2) 69 [.int .i64 7,.string nm]:=by have:=hp.bk;simpa using this
    have HBKz:=aa hbk;have HBz:=aa (ag (ab HB.out (HB3.out)) hp.only (ab HB.out (HB3.out)).size (by have:=HZ.out;omega));clear hp hbk;go_wp2_with fail
    refine bodyPost_ret (am rfl _ _ (z+2) 69 [.int .i64 7,.string nm] _ rfl HBKz.out Tryz.underlying69 rfl (al _ _)) rfl ?_;exact ⟨⟨_,_,rfl⟩,HBz.out⟩
   ·subst hs;have c3:w3.cell? ⟨z+1,3,none⟩=some (.int .i64 lo):=(HX.later HB3.out).cell 3;have c4:w3.cell? ⟨z+1,4,none⟩=some (.int .i64 hi):=(HX.later HB3.out).cell 4;go_wp2_with fail
    refine (em _ w3).mono ?_;rintro e w' ⟨rfl,rfl⟩;cases dt lo (-2147483648) 2147483647 with
    | false=>
     go_wp2_with (with_reducible refine ah 69 _ _ rfl ?_)
     refine ak.go ?_;refine ae rfl 69 _ _ rfl (z+2) 0 (.agg #[.int .i64 2,.string nm]) [.int .i64 2,.string nm] rfl rfl rfl 69 [] [.int .i64 0,.string ⟨#[]⟩] [] (by simpa using HK.later HB3.out) rfl rfl (al _ _) (ax _ _) ?_;intro wz hp;have hbk:Bk wz (z+2) 69 [.int .i64 2,.string nm]:=by have:=hp.bk;simpa using this
     have HBKz:=aa hbk;have HBz:=aa (ag (ab HB.out (HB3.out)) hp.only (ab HB.out (HB3.out)).size (by have:=HZ.out;omega));clear hp hbk;go_wp2_with fail
     refine bodyPost_ret (am rfl _ _ (z+2) 69 [.int .i64 2,.string nm] _ rfl HBKz.out Tryz.underlying69 rfl (al _ _)) rfl ?_;exact ⟨⟨_,_,rfl⟩,HBz.out⟩
    | true=>
     go_wp2_with fail
     refine (em _ w3).mono ?_;rintro e w' ⟨rfl,rfl⟩;cases dt hi (-2147483648) 2147483647 with
     | false=>
      go_wp2_with (with_reducible refine ah 69 _ _ rfl ?_)
      refine ak.go ?_;refine ae rfl 69 _ _ rfl (z+2) 0 (.agg #[.int .i64 2,.string nm]) [.int .i64 2,.string nm] rfl rfl rfl 69 [] [.int .i64 0,.string ⟨#[]⟩] [] (by simpa using HK.later HB3.out) rfl rfl (al _ _) (ax _ _) ?_;intro wz hp;have hbk:Bk wz (z+2) 69 [.int .i64 2,.string nm]:=by have:=hp.bk;simpa using this
      have HBKz:=aa hbk;have HBz:=aa (ag (ab HB.out (HB3.out)) hp.only (ab HB.out (HB3.out)).size (by have:=HZ.out;omega));clear hp hbk;go_wp2_with fail
      refine bodyPost_ret (am rfl _ _ (z+2) 69 [.int .i64 2,.string nm] _ rfl HBKz.out Tryz.underlying69 rfl (al _ _)) rfl ?_;exact ⟨⟨_,_,rfl⟩,HBz.out⟩
     | true=>
      by_cases hh:wrap64 (lo+63) < hi
      ·
       go_wp2_with (with_reducible refine ah 69 _ _ rfl ?_)
       refine ak.go ?_;refine ae rfl 69 _ _ rfl (z+2) 0 (.agg #[.int .i64 2,.string nm]) [.int .i64 2,.string nm] rfl rfl rfl 69 [] [.int .i64 0,.string ⟨#[]⟩] [] (by simpa using HK.later HB3.out) rfl rfl (al _ _) (ax _ _) ?_;intro wz hp;have hbk:Bk wz (z+2) 69 [.int .i64 2,.string nm]:=by have:=hp.bk;simpa using this
       have HBKz:=aa hbk;have HBz:=aa (ag (ab HB.out (HB3.out)) hp.only (ab HB.out (HB3.out)).size (by have:=HZ.out;omega));clear hp hbk;go_wp2_with fail
       refine bodyPost_ret (am rfl _ _ (z+2) 69 [.int .i64 2,.string nm] _ rfl HBKz.out Tryz.underlying69 rfl (al _ _)) rfl ?_;exact ⟨⟨_,_,rfl⟩,HBz.out⟩
      ·by_cases h8:8≤deep
       ·
        go_wp2_with (with_reducible refine ah 69 _ _ rfl ?_)
        refine ak.go ?_;refine ae rfl 69 _ _ rfl (z+2) 0 (.agg #[.int .i64 25,.string nm]) [.int .i64 25,.string nm] rfl rfl rfl 69 [] [.int .i64 0,.string ⟨#[]⟩] [] (by simpa using HK.later HB3.out) rfl rfl (al _ _) (ax _ _) ?_;intro wz hp;have hbk:Bk wz (z+2) 69 [.int .i64 25,.string nm]:=by have:=hp.bk;simpa using this
        have HBKz:=aa hbk;have HBz:=aa (ag (ab HB.out (HB3.out)) hp.only (ab HB.out (HB3.out)).size (by have:=HZ.out;omega));clear hp hbk;go_wp2_with fail
        refine bodyPost_ret (am rfl _ _ (z+2) 69 [.int .i64 25,.string nm] _ rfl HBKz.out Tryz.underlying69 rfl (al _ _)) rfl ?_;exact ⟨⟨_,_,rfl⟩,HBz.out⟩
       ·
        go_wp2_with fail
        refine (ca _).mono ?_;rintro e wf ⟨rfl,hbn⟩;have HBf:=aa (ab HB3.out hbn);clear hbn;go_wp2_with (with_reducible refine ah 69 _ _ rfl ?_)
        refine ak.go ?_;refine ae rfl 69 _ _ rfl (z+2) 0 (.agg #[.int .i64 0,.string ⟨#[]⟩]) [.int .i64 0,.string ⟨#[]⟩] rfl rfl rfl 69 [] [.int .i64 0,.string ⟨#[]⟩] [] (by simpa using HK.later HBf.out) rfl rfl (al _ _) (ax _ _) ?_;intro wz hp;have hbk:Bk wz (z+2) 69 [.int .i64 0,.string ⟨#[]⟩]:=by have:=hp.bk;simpa using this
        have HBKz:=aa hbk;have HBz:=aa (ag (ab HB.out (HBf.out)) hp.only (ab HB.out (HBf.out)).size (by have:=HZ.out;omega));clear hp hbk;go_wp2_with fail
        refine bodyPost_ret (am rfl _ _ (z+2) 69 [.int .i64 0,.string ⟨#[]⟩] _ rfl HBKz.out Tryz.underlying69 rfl (al _ _)) rfl ?_;exact ⟨⟨_,_,rfl⟩,HBz.out⟩
 go_wp2_with fail
 refine (ca _).mono ?_;rintro e wf ⟨rfl,hbn⟩;have HBf:=aa (ab (Below.refl w1.heap.size w1) hbn);clear hbn;go_wp2_with (with_reducible refine ah 69 _ _ rfl ?_)
 refine ak.go ?_;refine ae rfl 69 _ _ rfl (z+2) 0 (.agg #[.int .i64 0,.string ⟨#[]⟩]) [.int .i64 0,.string ⟨#[]⟩] rfl rfl rfl 69 [] [.int .i64 0,.string ⟨#[]⟩] [] (by simpa using HK.later HBf.out) rfl rfl (al _ _) (ax _ _) ?_;intro wz hp;have hbk:Bk wz (z+2) 69 [.int .i64 0,.string ⟨#[]⟩]:=by have:=hp.bk;simpa using this
 have HBKz:=aa hbk;have HBz:=aa (ag (ab HB.out (HBf.out)) hp.only (ab HB.out (HBf.out)).size (by have:=HZ.out;omega));clear hp hbk;go_wp2_with fail
 refine bodyPost_ret (am rfl _ _ (z+2) 69 [.int .i64 0,.string ⟨#[]⟩] _ rfl HBKz.out Tryz.underlying69 rfl (al _ _)) rfl ?_;exact ⟨⟨_,_,rfl⟩,HBz.out⟩
end Go.Proofs.YtllbdpdnpaocnaaGreatDoor
