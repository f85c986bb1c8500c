/- Part of the proof of WholeStep. -/
import Derived.Test.YtllbdpdnpaocnaaGreatDoorZAF
import Derived.Deep.CutBlock
import Derived.Deep.DeepCutAuto
namespace Go.Proofs.YtllbdpdnpaocnaaGreatDoor
set_option linter.unusedSimpArgs false
set_option linter.unusedVariables false
set_option linter.constructorNameAsVariable false
open Go.RowKit Go.Maps
def ev:Es→Prop
 | .nil=>True
 | .cons op _ _ _ N _ k r=>(∃j:Nat,op=j∧dG[j]?=some (N:Int))∧ev k∧ev r
theorem vK {j:Nat} (h:j≤17):∃q,dG[j]?=some q∧0≤q∧q≤2:=by
 have:∀i:Fin 18,∃q,dG[i.val]?=some q∧0≤q∧q≤2:=by decide
 exact this ⟨j,by omega⟩
theorem np {F:Es} : ∀{k:Nat},(∀i,i < k→∀op n nm A N C kids rest,F.drop i=.cons op n nm A N C kids rest→(∃j:Nat,op=j∧dG[j]?=some (N:Int))∧ev kids)→F.len≤k→ev F:=by
 induction F with
 | nil=>intro k h hk;trivial
 | cons op n nm A N C kids rest ihk ihr=>intro k h hk;simp only [Es.len] at hk;have h0:=h 0 (by omega) op n nm A N C kids rest rfl;refine ⟨h0.1,h0.2,ihr (k:=k - 1) (fun i hi op' n' nm' A' N' C' k' r' e=>h (i+1) (by omega) op' n' nm' A' N' C' k' r' (by rw [Es.drop];exact e)) (by omega)⟩
set_option maxRecDepth 20000 in
set_option maxHeartbeats 2000000 in
theorem tM (F:Es):∀(w:World) (lo g mb c:Nat) (op n:Int) (nm:ByteArray) (A:Option Addr) (N C:Nat),Ck w lo g mb c→de w lo A N F→cX w→6≤lo→lo≤w.heap.size→F.size≤1048576→nm.size≤1048576→(-9223372036854775808≤op∧op < 9223372036854775808)→Calls Tryz.prog 256 #[.pointer (some ⟨g,0,none⟩),.agg (exC op n nm A N C).toArray] w fun e w'=>kK ((∃j:Nat,op=j∧dG[j]?=some (N:Int))∧ev F) e∧Below w.heap.size w w':=by
 obtain ⟨m,hm⟩:∃m,F.size=m:=⟨_,rfl⟩;induction m using Nat.strongRecOn generalizing F with
 | ind m ih=>
  intro w lo g mb c op n nm A N C hc hF hL h6 hlo hFz hnm hop;have hN2:N≤1048576:=by have:=hF.len;have:=Es.len_size F;omega
  obtain ⟨z,hz⟩:∃z,w.heap.size=z:=⟨_,rfl⟩;obtain ⟨w1,hw1⟩:∃w1,w.alloc (.cells (exC op n nm A N C).toArray 257)=w1:=⟨_,rfl⟩;have hk:Bk w1 z 257 (exC op n nm A N C):=hw1▸Bk.at_ w _ _ hz rfl;have hb:Below w.heap.size w w1:=hw1▸ai w _;have HW:=aa hw1;have HB:=aa hb;have HZ:=aa hz;have HK:=aa hk;have HC:=aa (hc.later hb);have HLA:=aa (hL.later hb);have HF:=aa (hF.below (hb.mono hlo));have HIH:=aa ih;have HM:=aa hm;have HN:=aa hF.len;have HLO:=aa (Nat.le_trans hlo hb.size);clear hk hw1 hz hb hc hL hF ih hm hlo;go_enter Tryz.func256,Tryz.ntmps256;go_upto_region 1 with fail
  rw [HW.out,HZ.out];refine wp_region_held_drew (S:=fun wk=>Bk wk z 257 (exC op n nm A N C)∧cX wk) (by kernel_rfl) ⟨HK.later (ac w1 _ 1),HLA.later (ac w1 _ 1)⟩ (fun hHeld=>?_);obtain ⟨w2,hw2⟩:∃wa,w1.drew=wa:=⟨_,rfl⟩;have hb2:Below w1.heap.size w1 w2:=hw2▸ac w1 w1.heap.size 1;rw [hw2] at hHeld ⊢;have HB2:=aa hb2;have HC2:=aa (HC.later hb2);clear hw2 hb2;obtain ⟨x2,hx2⟩:∃x,dt op 0 17=x:=⟨_,rfl⟩;have HR2:Hid (Calls Tryz.prog 161 #[.int .i64 op,.int .i64 0,.int .i64 17] w2 fun e w'=>e=.returned (.bool x2)∧w2=w'):=by rw [←hx2];exact di op 0 17 w2
  refine tk 0 ?_;refine tkv 1 rfl (fun w hSw=>by have hcell:=(show w.cell? ⟨z,0,none⟩=some (.int .i64 op) from hSw.1.cell 0);clear hSw;go_simp;try with_reducible rfl) ?_;refine rd1 2 (fun K hK=>?_);go_simp
  (refine HR2.mono ?_;rintro e w9 ⟨rfl,rfl⟩)
  refine so hK (⟨HK.later HB2.out,HLA.later HB2.out⟩) (fun hHeld=>?_);clear hK K;refine tk 3 ?_;cases x2 with
  | false=>
   refine tk0 4 ?_;refine tk0 5 ?_;refine tk0 6 ?_;refine tk0 7 ?_;refine tk0 8 ?_;refine tk0 9 ?_;refine tk0 10 ?_;refine tk0 11 ?_;refine tk 12 ?_;refine rd1 13 (fun K hK=>?_);go_simp;refine (aD false 3 (⟨#[]⟩) (by decide) _).mono ?_;rintro e w' ⟨⟨hmb,rfl⟩ | ⟨hmb,pn,ps,rfl,hpn⟩,rfl⟩;rotate_left
   ·exact aA rfl ⟨.inr ⟨pn,ps,rfl,hpn⟩,ab HB.out HB2.out⟩
   refine so hK (⟨HK.later HB2.out,HLA.later HB2.out⟩) (fun hHeld=>?_);clear hK K;cases hmb
  | true=>
   obtain ⟨j,rfl⟩:∃j:Nat,op=j:=⟨op.toNat,by unfold dt at hx2;simp at hx2;omega⟩;have hj:j≤17:=by unfold dt at hx2;simp at hx2;omega
   have hj18:(j:Int) < 18:=by omega
   clear hx2 hop HR2;obtain ⟨q,hq,hq0,hq2⟩:=vK hj;have HQ:=aa hq;clear hq;refine tk 4 ?_;refine tk 7 ?_;refine tkv 5 rfl (fun w hSw=>by have hcell:=(show w.cell? ⟨z,3,none⟩=some (.slice A N C) from hSw.1.cell 3);clear hSw;go_simp;try with_reducible rfl) ?_;refine tkv 8 rfl (fun w hSw=>by have hcell:=(show w.cell? ⟨z,0,none⟩=some (.int .i64 j) from hSw.1.cell 0);clear hSw;go_simp;try with_reducible rfl) ?_;refine tk 6 ?_;refine tk 9 ?_;refine tkv 10 rfl (fun w hSw=>by have hcell:=(hSw.2.eP j q HQ.out);clear hSw;go_simp;try with_reducible rfl) ?_;refine tk 11 ?_;refine tk 12 ?_;refine rd1 13 (fun K hK=>?_);go_simp;refine (aD _ 3 (⟨#[]⟩) (by decide) _).mono ?_;rintro e w' ⟨⟨hmb,rfl⟩ | ⟨hmb,pn,ps,rfl,hpn⟩,rfl⟩;rotate_left
   ·exact aA rfl ⟨.inr ⟨pn,ps,rfl,hpn⟩,ab HB.out HB2.out⟩
   refine so hK (⟨HK.later HB2.out,HLA.later HB2.out⟩) (fun hHeld=>?_);clear hK K;refine wpAnyH_done rfl ?_ _;have HG:Hid (∃i:Nat,(j:Int)=i∧dG[i]?=some (N:Int)):=⟨j,rfl,by have:=HQ.out;simp at hmb;rw [this,hmb]⟩;clear hmb HQ;have d0:w2.cell? ⟨z,0,none⟩=some (.int .i64 j):=(HK.later HB2.out).cell 0;go_upto_block 0 with fail
   clear d0;go_cut [] (fun wx=>Hid (Below w1.heap.size w1 wx))
   case first=>
    cases h0:((j:Int) == 0);rotate_left
    ·have d1:w2.cell? ⟨z,1,none⟩=some (.int .i64 n):=(HK.later HB2.out).cell 1;go_wp2_with (go_at_call 262;refine (jC _ _).mono ?_;rintro e w' ⟨rfl,rfl⟩)
     refine (aD _ _ _ (by decide) _).mono ?_;rintro e w' ⟨⟨hmb,rfl⟩ | ⟨hmb,pn,ps,rfl,hpn⟩,rfl⟩;rotate_left
     ·dsimp only;exact aA rfl ⟨.inr ⟨pn,ps,rfl,hpn⟩,ab HB.out HB2.out⟩
     clear hmb;go_wp2_with fail
     go_meet;exact HB2.out
    cases h1:((j:Int) == 1);rotate_left
    ·
     go_wp2_with fail
     refine wp_region_held_drew (S:=fun wk=>Bk wk z 257 (exC j n nm A N C)) (by kernel_rfl) (HK.later (ab HB2.out (ac w2 _ 1))) (fun hHeld=>?_);obtain ⟨w3,hw3⟩:∃wa,w2.drew=wa:=⟨_,rfl⟩;have hb3:Below w2.heap.size w2 w3:=hw3▸ac w2 w2.heap.size 1;rw [hw3] at hHeld ⊢;have HB3:=aa (ab HB2.out hb3);have HC3:=aa (HC2.later hb3);clear hw3 hb3;refine tk 0 ?_;refine tk 1 ?_;refine tk 4 ?_;refine tkv 2 rfl (fun w hSw=>by have hcell:=(show w.cell? ⟨z,2,none⟩=some (.string nm) from hSw.cell 2);clear hSw;go_simp;try with_reducible rfl) ?_;refine tkv 5 rfl (fun w hSw=>by have hcell:=(show w.cell? ⟨z,2,none⟩=some (.string nm) from hSw.cell 2);clear hSw;go_simp;try with_reducible rfl) ?_;refine rd1 3 (fun K hK=>?_);go_simp
     (refine (eZ w3 lo g mb _ HC3.out nm hnm).mono ?_;rintro e w4 ⟨⟨x4,rfl⟩,rfl⟩)
     refine so hK (HK.later HB3.out) (fun hHeld=>?_);clear hK K;refine rd1 6 (fun K hK=>?_);go_simp;refine (aD x4 6 (nm) (by decide) _).mono ?_;rintro e w' ⟨⟨hmb,rfl⟩ | ⟨hmb,pn,ps,rfl,hpn⟩,rfl⟩;rotate_left
     ·dsimp only;exact aA rfl ⟨.inr ⟨pn,ps,rfl,hpn⟩,ab HB.out HB3.out⟩
     refine so hK (HK.later HB3.out) (fun hHeld=>?_);clear hK K;refine wpAnyH_done rfl ?_ _;clear hmb;go_wp2_with fail
     obtain ⟨n4,D4,hm4,_⟩:=(HC3.out).mp;obtain ⟨part4,fors4,hk4⟩:=(HC3.out).bk;have HLK:Hid (∀wk,wk.ownsMap Tryz.prog 9 (plainElem Tryz.prog 240) mb n4 D4→(Instr.lookup 178 (.map (some mb)) (.string nm) false).run Tryz.prog wk=.ok (.int .i64 (atI D4 (f8 nm))) wk):=fun wk hwk=>gT Tryz.underlying178 Tryz.underlying9 Tryz.underlying240 (Tryz.zeroValue240 _) hwk hnm;obtain ⟨q4,hq4⟩:∃q,atI D4 (f8 nm)=q:=⟨_,rfl⟩;rw [hq4] at HLK;have HM4:=aa hm4;have HK4:=aa hk4;clear hm4 hk4 hq4;refine wp_region_held_drew (S:=fun wk=>Bk wk z 257 (exC j n nm A N C)∧wk.cell? ⟨g,0,none⟩=some (.map (some mb))∧wk.ownsMap (H:=Unit) Tryz.prog 9 (plainElem Tryz.prog 240) mb n4 D4) (by kernel_rfl) ⟨HK.later (ab HB3.out (ac w3 _ 1)),(HK4.later (ac w3 _ 1)).cell 0,HM4.drew⟩ (fun hHeld=>?_);have HB5:=aa (ab HB3.out (ac w3 w3.heap.size 1));have HS5:Hid (w3.drew.cell? ⟨g,0,none⟩=some (.map (some mb))∧w3.drew.ownsMap (H:=Unit) Tryz.prog 9 (plainElem Tryz.prog 240) mb n4 D4):=⟨(HK4.later (ac w3 _ 1)).cell 0,HM4.drew⟩;refine tk 0 ?_;refine tk 4 ?_;refine tk 8 ?_;refine tk 12 ?_;refine tk 1 ?_;refine tkv 5 rfl (fun w hSw=>by have hcell:=(show w.cell? ⟨z,2,none⟩=some (.string nm) from hSw.1.cell 2);clear hSw;go_simp;try with_reducible rfl) ?_;refine tkv 9 rfl (fun w hSw=>by have hcell:=(show w.cell? ⟨z,0,none⟩=some (.int .i64 j) from hSw.1.cell 0);clear hSw;go_simp;try with_reducible rfl) ?_;refine tkv 13 rfl (fun w hSw=>by have hcell:=(show w.cell? ⟨z,2,none⟩=some (.string nm) from hSw.1.cell 2);clear hSw;go_simp;try with_reducible rfl) ?_;refine tk 2 ?_;refine tk 10 ?_;refine tkv 3 rfl (fun w hSw=>by have hcell:=hSw.2.1;clear hSw;go_simp;try with_reducible rfl) ?_;refine tkv 6 rfl (fun w hSw=>by have hcell:=HLK.out w hSw.2.2;clear hSw;go_simp;try with_reducible rfl) ?_;refine tk 7 ?_;refine tk 11 ?_;refine rd1 14 (fun K hK=>?_);go_simp;refine (aD _ 11 (nm) (by decide) _).mono ?_;rintro e w' ⟨⟨hmb,rfl⟩ | ⟨hmb,pn,ps,rfl,hpn⟩,rfl⟩;rotate_left
     ·dsimp only;exact aA rfl ⟨.inr ⟨pn,ps,rfl,hpn⟩,ab HB.out HB5.out⟩
     refine so hK (⟨HK.later HB5.out,HS5.out⟩) (fun hHeld=>?_);clear hK K;refine wpAnyH_done rfl ?_ _;clear hmb;go_wp2_with fail
     go_meet;exact HB5.out
    cases h2:((j:Int) == 2);rotate_left
    ·
     go_wp2_with fail
     refine wp_region_held_drew (S:=fun wk=>Bk wk z 257 (exC j n nm A N C)) (by kernel_rfl) (HK.later (ab HB2.out (ac w2 _ 1))) (fun hHeld=>?_);obtain ⟨w3,hw3⟩:∃wa,w2.drew=wa:=⟨_,rfl⟩;have hb3:Below w2.heap.size w2 w3:=hw3▸ac w2 w2.heap.size 1;rw [hw3] at hHeld ⊢;have HB3:=aa (ab HB2.out hb3);have HC3:=aa (HC2.later hb3);clear hw3 hb3;refine tk 0 ?_;refine tk 1 ?_;refine tk 4 ?_;refine tkv 2 rfl (fun w hSw=>by have hcell:=(show w.cell? ⟨z,2,none⟩=some (.string nm) from hSw.cell 2);clear hSw;go_simp;try with_reducible rfl) ?_;refine tkv 5 rfl (fun w hSw=>by have hcell:=(show w.cell? ⟨z,2,none⟩=some (.string nm) from hSw.cell 2);clear hSw;go_simp;try with_reducible rfl) ?_;refine rd1 3 (fun K hK=>?_);go_simp
     (refine (eZ w3 lo g mb _ HC3.out nm hnm).mono ?_;rintro e w4 ⟨⟨x4,rfl⟩,rfl⟩)
     refine so hK (HK.later HB3.out) (fun hHeld=>?_);clear hK K;refine rd1 6 (fun K hK=>?_);go_simp;refine (aD x4 6 (nm) (by decide) _).mono ?_;rintro e w' ⟨⟨hmb,rfl⟩ | ⟨hmb,pn,ps,rfl,hpn⟩,rfl⟩;rotate_left
     ·dsimp only;exact aA rfl ⟨.inr ⟨pn,ps,rfl,hpn⟩,ab HB.out HB3.out⟩
     refine so hK (HK.later HB3.out) (fun hHeld=>?_);clear hK K;refine wpAnyH_done rfl ?_ _;clear hmb;go_wp2_with fail
     obtain ⟨n4,D4,hm4,_⟩:=(HC3.out).mp;obtain ⟨part4,fors4,hk4⟩:=(HC3.out).bk;have HLK:Hid (∀wk,wk.ownsMap Tryz.prog 9 (plainElem Tryz.prog 240) mb n4 D4→(Instr.lookup 178 (.map (some mb)) (.string nm) false).run Tryz.prog wk=.ok (.int .i64 (atI D4 (f8 nm))) wk):=fun wk hwk=>gT Tryz.underlying178 Tryz.underlying9 Tryz.underlying240 (Tryz.zeroValue240 _) hwk hnm;obtain ⟨q4,hq4⟩:∃q,atI D4 (f8 nm)=q:=⟨_,rfl⟩;rw [hq4] at HLK;have HM4:=aa hm4;have HK4:=aa hk4;clear hm4 hk4 hq4;refine wp_region_held_drew (S:=fun wk=>Bk wk z 257 (exC j n nm A N C)∧wk.cell? ⟨g,0,none⟩=some (.map (some mb))∧wk.ownsMap (H:=Unit) Tryz.prog 9 (plainElem Tryz.prog 240) mb n4 D4) (by kernel_rfl) ⟨HK.later (ab HB3.out (ac w3 _ 1)),(HK4.later (ac w3 _ 1)).cell 0,HM4.drew⟩ (fun hHeld=>?_);have HB5:=aa (ab HB3.out (ac w3 w3.heap.size 1));have HS5:Hid (w3.drew.cell? ⟨g,0,none⟩=some (.map (some mb))∧w3.drew.ownsMap (H:=Unit) Tryz.prog 9 (plainElem Tryz.prog 240) mb n4 D4):=⟨(HK4.later (ac w3 _ 1)).cell 0,HM4.drew⟩;refine tk 0 ?_;refine tk 4 ?_;refine tk 8 ?_;refine tk 12 ?_;refine tk 1 ?_;refine tkv 5 rfl (fun w hSw=>by have hcell:=(show w.cell? ⟨z,2,none⟩=some (.string nm) from hSw.1.cell 2);clear hSw;go_simp;try with_reducible rfl) ?_;refine tkv 9 rfl (fun w hSw=>by have hcell:=(show w.cell? ⟨z,0,none⟩=some (.int .i64 j) from hSw.1.cell 0);clear hSw;go_simp;try with_reducible rfl) ?_;refine tkv 13 rfl (fun w hSw=>by have hcell:=(show w.cell? ⟨z,2,none⟩=some (.string nm) from hSw.1.cell 2);clear hSw;go_simp;try with_reducible rfl) ?_;refine tk 2 ?_;refine tk 10 ?_;refine tkv 3 rfl (fun w hSw=>by have hcell:=hSw.2.1;clear hSw;go_simp;try with_reducible rfl) ?_;refine tkv 6 rfl (fun w hSw=>by have hcell:=HLK.out w hSw.2.2;clear hSw;go_simp;try with_reducible rfl) ?_;refine tk 7 ?_;refine tk 11 ?_;refine rd1 14 (fun K hK=>?_);go_simp;refine (aD _ 11 (nm) (by decide) _).mono ?_;rintro e w' ⟨⟨hmb,rfl⟩ | ⟨hmb,pn,ps,rfl,hpn⟩,rfl⟩;rotate_left
     ·dsimp only;exact aA rfl ⟨.inr ⟨pn,ps,rfl,hpn⟩,ab HB.out HB5.out⟩
     refine so hK (⟨HK.later HB5.out,HS5.out⟩) (fun hHeld=>?_);clear hK K;refine wpAnyH_done rfl ?_ _;clear hmb;go_wp2_with fail
     go_meet;exact HB5.out
    go_wp2_with fail
    go_meet;exact HB2.out
   have HB4:=aa hcut.out;have c3:wc.cell? ⟨z,3,none⟩=some (.slice A N C):=(HK.later HB4.out).cell 3;refine ‹∀(a:Act) (w:World),Code.wp _ _ _ a w→_› _ _ ?_;go_wp2_with fail
   go_loopw [5,56] (fun _ i wr=>∃k:Nat,k≤N∧i=.int .i64 k∧Hid (Below w1.heap.size w1 wr)∧Hid (∀i,i < k→∀op n nm A N C kids rest,F.drop i=.cons op n nm A N C kids rest→(∃j:Nat,op=j∧dG[j]?=some (N:Int))∧ev kids)) (fun _ i _=>N - (intOf i).toNat)
   case atStart=>exact ⟨0,Nat.zero_le _,rfl,HB4.out,fun i hi=>by omega⟩
   case round=>
    obtain ⟨k,hk,rfl,hB,hGd⟩:=hrel;by_cases hlt:k < N
    ·obtain ⟨b,o,op',n',nm',A',N',C',kids,rest,hA,hb,hr,e1,e2,hkd,hop',_,hnm',_,hks⟩:=(HF.below (hB.out.mono HLO.out)).spot hlt;subst hA;have HR:=aa hr;have HE1:=aa e1;have HCC:Hid (∀wk,Below wr.heap.size wr wk→Calls Tryz.prog 256 #[.pointer (some ⟨g,0,none⟩),.agg (exC op' n' nm' A' N' C').toArray] wk fun e w'=>kK ((∃j:Nat,op'=j∧dG[j]?=some (N' : Int))∧ev kids) e∧Below wk.heap.size wk w'):=fun wk hwk=>HIH.out kids.size (by have:=HM.out;omega) kids rfl wk lo g mb c op' n' nm' A' N' C' ((HC.later hB.out).later hwk) (hkd.below (hwk.mono (Nat.le_trans HLO.out hB.out.size))) ((HLA.later hB.out).later hwk) h6 (Nat.le_trans (Nat.le_trans HLO.out hB.out.size) hwk.size) (by omega) hnm' hop';clear hkd hr e1 e2 hks hop' hnm';go_wp2_with (first | (with_reducible refine wpList_load_mid rfl 257 _ rfl b (o+k*4) rfl (exC op' n' nm' A' N' C') _ HR.out Tryz.underlying257 rfl (aV _ _ _ _ _ _) ?_) | (with_reducible refine ah 257 _ _ rfl ?_))
     refine ak.go ?_;obtain ⟨g3,hg3⟩:∃q,wr.heap.size=q:=⟨_,rfl⟩;rw [hg3];refine an 257 _ _ rfl g3 hg3 (exC op' n' nm' A' N' C') rfl rfl rfl rfl (aV _ _ _ _ _ _) (gY _ _ _ _ _ _) ?_;intro w3 hk hbn;have HK3:=aa hk;have HB3:=aa hbn;clear hk hbn;go_wp2_with (with_reducible refine aj rfl 257 _ rfl g3 rfl (exC op' n' nm' A' N' C') 257 HK3.out _ Tryz.underlying257 rfl (aV _ _ _ _ _ _) ?_)
     refine (HCC.out _ HB3.out).mono ?_;rintro e w4 ⟨⟨rfl,hG⟩ | ⟨pn,ps,rfl,hpn⟩,hbn⟩;rotate_left
     ·exact bj (cx (aA rfl ⟨.inr ⟨pn,ps,rfl,hpn⟩,ab HB.out (ab hB.out (ab HB3.out hbn))⟩))
     have HG4:=aa hG;have HB5:=aa (ab hB.out (ab HB3.out hbn));clear hG hbn;go_wp2_with fail
     go_roundw
     case rel=>exact ⟨k+1,by omega,by go_num,HB5.out,fun i hi op n nm A N C kd rs he=>by
      by_cases hik:i < k
      ·exact hGd.out i hik op n nm A N C kd rs he
      ·obtain rfl:i=k:=by omega
       rw [HE1.out] at he;cases he;exact HG4.out⟩
     case measure=>simp [intOf];omega
    ·go_wp2_with fail
     refine bodyPost_end (results_none rfl _ _ _) rfl ?_;exact ⟨.inl ⟨rfl,HG.out,np hGd.out (by have:=HN.out;omega)⟩,ab HB.out hB.out⟩
structure Kp (g mb:Nat) (w w' : World):Prop where
 os:w'.os=w.os
 tape:w'.tape=w.tape
 output:w'.output=w.output
 size:w.heap.size≤w'.heap.size
 blk:∀i,i < w.heap.size→i≠g→i≠mb→w'.heap[i]?=w.heap[i]?
section
variable {g mb lo:Nat} {w w' w'' : World}
theorem Kp.refl (g mb:Nat) (w:World):Kp g mb w w:=⟨rfl,rfl,rfl,Nat.le_refl _,fun _ _ _ _=>rfl⟩
theorem Kp.of (h:Below w.heap.size w w'):Kp g mb w w':=⟨h.os,h.tape,h.output,h.size,fun i hi _ _=>h.block i hi⟩
theorem Kp.trans (h:Kp g mb w w') (k:Kp g mb w' w''):Kp g mb w w'':=
 ⟨k.os.trans h.os,k.tape.trans h.tape,k.output.trans h.output,Nat.le_trans h.size k.size,fun i hi a b=>(k.blk i (Nat.lt_of_lt_of_le hi h.size) a b).trans (h.blk i hi a b)⟩
theorem Kp.then (h:Kp g mb w w') (k:Below w'.heap.size w' w''):Kp g mb w w'':=h.trans (Kp.of k)
theorem Kp.map (h:Kp g mb w w') (hg:w'.grownBy w'' (some mb)):Kp g mb w w'':=
 h.trans ⟨hg.os,hg.tape,hg.output,hg.size,fun i hi _ b=>hg.block i hi (fun e=>b (by injection e))⟩
theorem Kp.bk (h:Kp g mb w w') (hg:w'.grownBy w'' (some g)):Kp g mb w w'':=
 h.trans ⟨hg.os,hg.tape,hg.output,hg.size,fun i hi a _=>hg.block i hi (fun e=>a (by injection e))⟩
theorem Kp.below (h:Kp g mb w w') (h1:lo≤g) (h2:lo≤mb) (h3:lo≤w.heap.size):Below lo w w':=
 ⟨h.os,h.tape,h.output,h.size,fun i hi=>h.blk i (by omega) (by omega) (by omega)⟩
theorem Kp.cell (h:Kp g mb w w') {p:Addr} {v:Value} (hp:w.cell? p=some v) (h1:p.block≠g) (h2:p.block≠mb):w'.cell? p=some v:=
 (World.cell?_of_block (w:=w) (h.blk _ (World.block_lt_of_cell? _ _ hp) h1 h2)).trans hp
theorem Kp.keep {b:Nat} {T:TypeId} {cs:List Value} (h:Kp g mb w w') (hb:Bk w b T cs) (h1:b≠g) (h2:b≠mb):Bk w' b T cs:=by have:=hb.lt;unfold Bk at hb ⊢;rw [h.blk b this h1 h2];exact hb
end
structure gb (g mb:Nat) (w:World) (A:Option Addr) (N:Nat) (L:List ByteArray):Prop where
 len:L.length=N
 ok:∀s∈L,s.size≤1048576
 at_:N=0∨∃b o,A=some ⟨b,o,none⟩∧b≠g∧b≠mb∧∀k s,L[k]?=some s→w.cell? ⟨b,o+k,none⟩=some (.string s)
theorem gb.kp {g mb:Nat} {w w' : World} {A:Option Addr} {N:Nat} {L:List ByteArray} (h:gb g mb w A N L) (hk:Kp g mb w w'):gb g mb w' A N L:=by
 refine ⟨h.len,h.ok,?_⟩;rcases h.at_ with h0 | ⟨b,o,hA,h1,h2,h3⟩
 ·exact .inl h0
 ·exact .inr ⟨b,o,hA,h1,h2,fun k s hs=>hk.cell (h3 k s hs) h1 h2⟩
theorem gb.nil (g mb:Nat) (w:World):gb g mb w none 0 []:=⟨rfl,fun s hs=>by simp at hs,.inl rfl⟩
theorem gb.spot {g mb:Nat} {w:World} {A:Option Addr} {N:Nat} {L:List ByteArray} (h:gb g mb w A N L) {k:Nat} (hk:k < N):∃b o s,A=some ⟨b,o,none⟩∧b≠g∧b≠mb∧w.cell? ⟨b,o+k,none⟩=some (.string s)∧s.size≤1048576:=by
 rcases h.at_ with h0 | ⟨b,o,hA,h1,h2,h3⟩
 ·omega
 ·have hl:k < L.length:=by rw [h.len];exact hk
  exact ⟨b,o,L[k],hA,h1,h2,h3 k _ (List.getElem?_eq_getElem hl),h.ok _ (List.getElem_mem hl)⟩
set_option maxRecDepth 20000 in
theorem oq (w:World) (lo g mb c:Nat) (hc:Ck w lo g mb c) (b4 b7:Nat) (NA:Option Addr) (NN NC:Nat) (L:List ByteArray) (hN:gb g mb w NA NN L) (hNN:NN≤1048576) (h4:Bk w b4 177 [.pointer (some ⟨g,0,none⟩)]) (h7:Bk w b7 126 [.slice NA NN NC]) (n4:b4≠g∧b4≠mb) (n7:b7≠g∧b7≠mb) (u:FrameMode):CallsD Tryz.prog 240 #[.pointer (some ⟨b7,0,none⟩),.pointer (some ⟨b4,0,none⟩)] u w fun e u' w'=>u'=u∧(e=.returned (.tuple #[])∧Kp g mb w w'∧Ck w' lo g mb c):=by
 have HC:=aa hc;have HN:=aa hN;have H4:=aa h4;have H7:=aa h7;have HN4:=aa n4;have HN7:=aa n7;have d7:w.cell? ⟨b7,0,none⟩=some (.slice NA NN NC):=h7.cell 0;clear hc hN h4 h7 n4 n7;go_enter_d Tryz.func240,Tryz.ntmps240;go_wp2_with fail
 go_loopw [3,6] (fun _ i wr=>∃k:Nat,k≤NN∧i=.int .i64 k∧Hid (Kp g mb w wr)∧Hid (Ck wr lo g mb c)) (fun _ i _=>NN - (intOf i).toNat)
 case atStart=>exact ⟨0,Nat.zero_le _,rfl,Kp.refl _ _ _,HC.out⟩
 case round=>
  obtain ⟨k,hk,rfl,hKp,hCk⟩:=hrel;by_cases hlt:k < NN
  ·obtain ⟨b,o,s,hA,_,_,hs,hsz⟩:=(HN.kp hKp.out).spot hlt;rw [hA];obtain ⟨n9,D9,hm9,hn9⟩:=hCk.out.mp;obtain ⟨part9,fors9,hk9⟩:=hCk.out.bk;have e4:wr.cell? ⟨b4,0,none⟩=some (.pointer (some ⟨g,0,none⟩)):=hKp.out.cell (H4.cell 0) HN4.out.1 HN4.out.2;have e0:wr.cell? ⟨g,0,none⟩=some (.map (some mb)):=hk9.cell 0;have HM9:=aa hm9;have HNC:=aa hn9;have HX:=aa (WideMaps.keyOf_string_mk (P:=Tryz.prog) Tryz.underlying9 (s:=s) (by unfold maxLen;omega));clear hm9 hk9 hn9;go_wp2_with (at_delete;refine wpList_delete_own _ rfl _ _ 178 9 rfl 240 (string_keyed Tryz.underlying9) Tryz.underlying178 _ mb n9 D9 rfl HM9.out _ _ rfl HX.out ?_;intro w8 hown8 ht8;have HK8:=aa (hKp.out.map ht8.grown);have HC8:=aa (hCk.out.mapped ht8.grown ⟨_,_,hown8,HNC.out⟩);clear hown8 ht8)
   go_roundw
   case rel=>exact ⟨k+1,by omega,by go_num,HK8,HC8⟩
   case measure=>simp [intOf];omega
  ·go_wp2_with fail
   refine bodyPost_end (results_none rfl _ _ _) rfl ?_;exact ⟨rfl,hKp.out,hCk.out⟩
def ey:Ss→Prop
 | .nil=>True
 | .cons kd _ _ N _ E _ _ _ _ _ L _ _ _ M r=>((∃j:Nat,kd=j∧fp[j]?=some (N:Int))∧ev E∧(kd=2→ey L∧ey M)∧(kd=3→ey L))∧ey r
def pV (kd:Int) (N:Nat) (E:Es) (L M:Ss):Prop:=(∃j:Nat,kd=j∧fp[j]?=some (N:Int))∧ev E∧(kd=2→ey L∧ey M)∧(kd=3→ey L)
theorem rj {F:Ss} : ∀{k:Nat},(∀i,i < k→∀kd nm A N C E lo hi A1 N1 C1 L A2 N2 C2 M rest,F.drop i=.cons kd nm A N C E lo hi A1 N1 C1 L A2 N2 C2 M rest→pV kd N E L M)→F.len≤k→ey F:=by
 induction F with
 | nil=>intro k h hk;trivial
 | cons kd nm A N C E lo hi A1 N1 C1 L A2 N2 C2 M rest ihL ihM ihr=>intro k h hk;simp only [Ss.len] at hk;have h0:=h 0 (by omega) kd nm A N C E lo hi A1 N1 C1 L A2 N2 C2 M rest rfl;exact ⟨h0,ihr (k:=k - 1) (fun i hi kd' nm' A' N' C' E' lo' hi' A1' N1' C1' L' A2' N2' C2' M' r' e=>h (i+1) (by omega) kd' nm' A' N' C' E' lo' hi' A1' N1' C1' L' A2' N2' C2' M' r' (by rw [Ss.drop];exact e)) (by omega)⟩
theorem vL {j:Nat} (h:j≤9):∃q,fp[j]?=some q∧0≤q∧q≤2:=by
 have:∀i:Fin 10,∃q,fp[i.val]?=some q∧0≤q∧q≤2:=by decide
 exact this ⟨j,by omega⟩
theorem rk (s:ByteArray) (w:World):(Instr.buildSlice 126 1 #[(0,.string s)]).run Tryz.prog w=.ok (.slice (some ⟨w.heap.size,0,none⟩) 1 1) (w.alloc (.cells #[.string s] 9)):=by kernel_rfl
def rl (F:Ss):Prop:=∀(w:World) (lo g mb c:Nat) (A:Option Addr) (N C:Nat) (top:Bool) (NA:Option Addr) (NN NC:Nat) (L:List ByteArray),Ck w lo g mb c→cE w lo A N F→cX w→6≤lo→lo≤w.heap.size→F.size≤1048576→
 gb g mb w NA NN L→NN≤1048576→c+NN+F.size≤1073741824→
 Calls Tryz.prog 218 #[.pointer (some ⟨g,0,none⟩),.slice A N C,.bool top,.slice NA NN NC] w fun e w'=>kK (ey F) e∧Kp g mb w w'∧Ck w' lo g mb (c+NN+F.size)
set_option maxRecDepth 20000 in
set_option maxHeartbeats 2000000 in
theorem yh (L M:Ss) (hL:rl L) (hM:rl M) (w:World) (lo g mb c:Nat) (kd:Int) (nm:ByteArray) (A:Option Addr) (N C:Nat) (E:Es) (l h:Int) (A1:Option Addr) (N1 C1:Nat) (A2:Option Addr) (N2 C2:Nat) (last:Bool) (hc:Ck w lo g mb c) (hs:iA w lo kd nm A N C E l h A1 N1 C1 L A2 N2 C2 M) (hLA:cX w) (h6:6≤lo) (hlo:lo≤w.heap.size) (hsz:E.size+L.size+M.size≤1048576) (hcc:c+L.size+M.size+1≤1073741824):Calls Tryz.prog 241 #[.pointer (some ⟨g,0,none⟩),.agg (aR kd nm A N C l h A1 N1 C1 A2 N2 C2).toArray,.bool last] w fun e w'=>kK (pV kd N E L M) e∧Kp g mb w w'∧Ck w' lo g mb (c+L.size+M.size+1):=by
 have hN2:N≤1048576:=by have:=hs.e.len;have:=Es.len_size E;omega
 have hnm:=hs.nm;have hop:=hs.kd;obtain ⟨z,hz⟩:∃z,w.heap.size=z:=⟨_,rfl⟩;have hzn:z≠g∧z≠mb:=by have:=hc.lt;omega
 obtain ⟨w1,hw1⟩:∃w1,w.alloc (.cells (aR kd nm A N C l h A1 N1 C1 A2 N2 C2).toArray 186)=w1:=⟨_,rfl⟩;have hk:Bk w1 z 186 (aR kd nm A N C l h A1 N1 C1 A2 N2 C2):=hw1▸Bk.at_ w _ _ hz rfl;have hb:Below w.heap.size w w1:=hw1▸ai w _;have HW:=aa hw1;have HB:=aa hb;have HZ:=aa hz;have HK:=aa hk;have HC:=aa (hc.later hb);have HLA:=aa (hLA.later hb);have HZN:=aa hzn;have HE:=aa (hs.e.below (hb.mono hlo));have HL1:=aa (hs.l.below (hb.mono hlo));have HM1:=aa (hs.m.below (hb.mono hlo));have HLO:=aa (Nat.le_trans hlo hb.size);have HBL:=aa hL;have HBM:=aa hM;have HN:=aa hs.e.len;have HG1:=aa hc.lo;clear hk hw1 hz hb hc hLA hs hlo hL hM hzn;go_enter Tryz.func241,Tryz.ntmps241;go_upto_region 1 with fail
 rw [HW.out,HZ.out];refine wp_region_held_drew (S:=fun wk=>Bk wk z 186 (aR kd nm A N C l h A1 N1 C1 A2 N2 C2)∧cX wk) (by kernel_rfl) ⟨HK.later (ac w1 _ 1),HLA.later (ac w1 _ 1)⟩ (fun hHeld=>?_);obtain ⟨w2,hw2⟩:∃wa,w1.drew=wa:=⟨_,rfl⟩;have hb2:Below w1.heap.size w1 w2:=hw2▸ac w1 w1.heap.size 1;rw [hw2] at hHeld ⊢;have HB2:=aa hb2;have HC2:=aa (HC.later hb2);clear hw2 hb2;obtain ⟨x2,hx2⟩:∃x,dt kd 0 9=x:=⟨_,rfl⟩;have HR2:Hid (Calls Tryz.prog 161 #[.int .i64 kd,.int .i64 0,.int .i64 9] w2 fun e w'=>e=.returned (.bool x2)∧w2=w'):=by rw [←hx2];exact di kd 0 9 w2
 refine tk 0 ?_;refine tkv 1 rfl (fun w hSw=>by have hcell:=(show w.cell? ⟨z,0,none⟩=some (.int .i64 kd) from hSw.1.cell 0);clear hSw;go_simp;try with_reducible rfl) ?_;refine rd1 2 (fun K hK=>?_);go_simp
 (refine HR2.mono ?_;rintro e w9 ⟨rfl,rfl⟩)
 refine so hK (⟨HK.later HB2.out,HLA.later HB2.out⟩) (fun hHeld=>?_);clear hK K;refine tk 3 ?_;cases x2 with
 | false=>
  refine tk0 4 ?_;refine tk0 5 ?_;refine tk0 6 ?_;refine tk0 7 ?_;refine tk0 8 ?_;refine tk0 9 ?_;refine tk0 10 ?_;refine tk0 11 ?_;refine tk 12 ?_;refine rd1 13 (fun K hK=>?_);go_simp;refine (aD false 3 (⟨#[]⟩) (by decide) _).mono ?_;rintro e w' ⟨⟨hmb,rfl⟩ | ⟨hmb,pn,ps,rfl,hpn⟩,rfl⟩;rotate_left
  ·exact aA rfl ⟨.inr ⟨pn,ps,rfl,hpn⟩,Kp.of (ab HB.out HB2.out),HC2.more (by omega)⟩
  refine so hK (⟨HK.later HB2.out,HLA.later HB2.out⟩) (fun hHeld=>?_);clear hK K;cases hmb
 | true=>
  obtain ⟨j,rfl⟩:∃j:Nat,kd=j:=⟨kd.toNat,by unfold dt at hx2;simp at hx2;omega⟩;have hj:j≤9:=by unfold dt at hx2;simp at hx2;omega
  have hj18:(j:Int) < 10:=by omega
  clear hx2 hop HR2;obtain ⟨q,hq,hq0,hq2⟩:=vL hj;have HQ:=aa hq;clear hq;refine tk 4 ?_;refine tk 7 ?_;refine tkv 5 rfl (fun w hSw=>by have hcell:=(show w.cell? ⟨z,2,none⟩=some (.slice A N C) from hSw.1.cell 2);clear hSw;go_simp;try with_reducible rfl) ?_;refine tkv 8 rfl (fun w hSw=>by have hcell:=(show w.cell? ⟨z,0,none⟩=some (.int .i64 j) from hSw.1.cell 0);clear hSw;go_simp;try with_reducible rfl) ?_;refine tk 6 ?_;refine tk 9 ?_;refine tkv 10 rfl (fun w hSw=>by have hcell:=(hSw.2.sP j q HQ.out);clear hSw;go_simp;try with_reducible rfl) ?_;refine tk 11 ?_;refine tk 12 ?_;refine rd1 13 (fun K hK=>?_);go_simp;refine (aD _ 3 (⟨#[]⟩) (by decide) _).mono ?_;rintro e w' ⟨⟨hmb,rfl⟩ | ⟨hmb,pn,ps,rfl,hpn⟩,rfl⟩;rotate_left
  ·exact aA rfl ⟨.inr ⟨pn,ps,rfl,hpn⟩,Kp.of (ab HB.out HB2.out),HC2.more (by omega)⟩
  refine so hK (⟨HK.later HB2.out,HLA.later HB2.out⟩) (fun hHeld=>?_);clear hK K;refine wpAnyH_done rfl ?_ _;have HG:Hid (∃i:Nat,(j:Int)=i∧fp[i]?=some (N:Int)):=⟨j,rfl,by have:=HQ.out;simp at hmb;rw [this,hmb]⟩;clear hmb HQ hj18 hq0 hq2;go_wp2_with fail
  obtain ⟨part4,fors4,hk4⟩:=(HC2.out).bk;have HK4:=aa hk4;clear hk4;refine wp_region_held_drew (S:=fun wk=>Bk wk z 186 (aR j nm A N C l h A1 N1 C1 A2 N2 C2)∧wk.cell? ⟨g,1,none⟩=some (.string part4)) (by kernel_rfl) ⟨HK.later (ab HB2.out (ac w2 _ 1)),(HK4.later (ac w2 _ 1)).cell 1⟩ (fun hHeld=>?_);obtain ⟨w3,hw3⟩:∃wa,w2.drew=wa:=⟨_,rfl⟩;have hb3:Below w2.heap.size w2 w3:=hw3▸ac w2 w2.heap.size 1;rw [hw3] at hHeld ⊢;have HB3:=aa (ab HB2.out hb3);have HC3:=aa (HC2.later hb3);have HS3:Hid (w3.cell? ⟨g,1,none⟩=some (.string part4)):=(HK4.later hb3).cell 1;clear hw3 hb3 HK4;refine tk 0 ?_;refine tk 1 ?_;refine tk 3 ?_;refine tk 5 ?_;refine tkv 2 rfl (fun w hSw=>by have hcell:=(show w.cell? ⟨z,0,none⟩=some (.int .i64 j) from hSw.1.cell 0);clear hSw;go_simp;try with_reducible rfl) ?_;refine tk 6 ?_;refine tk 7 ?_;refine tkv 8 rfl (fun w hSw=>by have hcell:=hSw.2;clear hSw;go_simp;try with_reducible rfl) ?_;refine rd1 4 (fun K hK=>?_);go_simp
  (refine (ri w3 lo g mb _ HC3.out j last).mono ?_;rintro e w9 ⟨⟨x4,rfl⟩,rfl⟩)
  refine so hK (⟨HK.later HB3.out,HS3.out⟩) (fun hHeld=>?_);clear hK K;refine rd1 9 (fun K hK=>?_);go_simp;refine (aD x4 10 (part4) (by decide) _).mono ?_;rintro e w' ⟨⟨hmb,rfl⟩ | ⟨hmb,pn,ps,rfl,hpn⟩,rfl⟩;rotate_left
  ·exact aA rfl ⟨.inr ⟨pn,ps,rfl,hpn⟩,Kp.of (ab HB.out HB3.out),HC3.more (by omega)⟩
  refine so hK (⟨HK.later HB3.out,HS3.out⟩) (fun hHeld=>?_);clear hK K;refine wpAnyH_done rfl ?_ _;clear hmb HS3;have d0:w3.cell? ⟨z,0,none⟩=some (.int .i64 j):=(HK.later HB3.out).cell 0;have HK3:=aa (HK.later HB3.out);have HT3:=aa (fun cs1 cs2 cs3 cs4 cs5 cs6=>pU w3 lo g mb c HC3.out j nm A N C l h cs1 cs2 cs3 cs4 cs5 cs6 hnm);have HP3:=aa (fun cs1 cs2 cs3 cs4 cs5 cs6=>tL w3 lo g mb c HC3.out (HLA.later HB3.out) j nm A N C l h cs1 cs2 cs3 cs4 cs5 cs6 hnm);go_upto_block 0 with fail
  clear d0;go_cut [] (fun wx=>Hid (Below w1.heap.size w1 wx))
  case first=>
   cases h0:((j:Int) == 0);rotate_left
   ·
    go_wp2_with (with_reducible refine aj rfl 186 _ rfl z rfl (aR j nm A N C l h A1 N1 C1 A2 N2 C2) 186 HK3.out _ Tryz.underlying186 rfl (bK _ _ _ _ _ _ _ _ _ _ _ _ _) ?_)
    refine (HT3.out _ _ _ _ _ _).mono ?_;rintro e w5 ⟨⟨rfl,_⟩ | ⟨pn,ps,rfl,hpn⟩,hbn⟩;rotate_left
    ·dsimp only;exact aA rfl ⟨.inr ⟨pn,ps,rfl,hpn⟩,Kp.of (ab HB.out (ab HB3.out hbn)),(HC3.later hbn).more (by omega)⟩
    have HB5:=aa (ab HB3.out hbn);clear hbn;go_wp2_with fail
    go_meet;exact HB5.out
   cases h1:((j:Int) == 5);rotate_left
   ·
    go_wp2_with (with_reducible refine aj rfl 186 _ rfl z rfl (aR j nm A N C l h A1 N1 C1 A2 N2 C2) 186 HK3.out _ Tryz.underlying186 rfl (bK _ _ _ _ _ _ _ _ _ _ _ _ _) ?_)
    refine (HT3.out _ _ _ _ _ _).mono ?_;rintro e w5 ⟨⟨rfl,_⟩ | ⟨pn,ps,rfl,hpn⟩,hbn⟩;rotate_left
    ·dsimp only;exact aA rfl ⟨.inr ⟨pn,ps,rfl,hpn⟩,Kp.of (ab HB.out (ab HB3.out hbn)),(HC3.later hbn).more (by omega)⟩
    have HB5:=aa (ab HB3.out hbn);clear hbn;go_wp2_with fail
    go_meet;exact HB5.out
   cases h2:((j:Int) == 1);rotate_left
   ·
    go_wp2_with (with_reducible refine aj rfl 186 _ rfl z rfl (aR j nm A N C l h A1 N1 C1 A2 N2 C2) 186 HK3.out _ Tryz.underlying186 rfl (bK _ _ _ _ _ _ _ _ _ _ _ _ _) ?_)
    refine (HT3.out _ _ _ _ _ _).mono ?_;rintro e w5 ⟨⟨rfl,_⟩ | ⟨pn,ps,rfl,hpn⟩,hbn⟩;rotate_left
    ·dsimp only;exact aA rfl ⟨.inr ⟨pn,ps,rfl,hpn⟩,Kp.of (ab HB.out (ab HB3.out hbn)),(HC3.later hbn).more (by omega)⟩
    have HB5:=aa (ab HB3.out hbn);clear hbn;go_wp2_with fail
    go_meet;exact HB5.out
   cases h3:((j:Int) == 3);rotate_left
   ·go_wp2_with (with_reducible refine aj rfl 186 _ rfl z rfl (aR j nm A N C l h A1 N1 C1 A2 N2 C2) 186 HK3.out _ Tryz.underlying186 rfl (bK _ _ _ _ _ _ _ _ _ _ _ _ _) ?_)
    refine (HP3.out _ _ _ _ _ _).mono ?_;rintro e w5 ⟨⟨rfl,_⟩ | ⟨pn,ps,rfl,hpn⟩,hbn⟩;rotate_left
    ·dsimp only;exact aA rfl ⟨.inr ⟨pn,ps,rfl,hpn⟩,Kp.of (ab HB.out (ab HB3.out hbn)),(HC3.later hbn).more (by omega)⟩
    have HB5:=aa (ab HB3.out hbn);clear hbn;go_wp2_with fail
    go_meet;exact HB5.out
   go_wp2_with fail
   go_meet;exact HB3.out
  have HB4:=aa hcut.out;have c3:wc.cell? ⟨z,2,none⟩=some (.slice A N C):=(HK.later HB4.out).cell 2;refine ‹∀(a:Act) (w:World),Code.wp _ _ _ a w→_› _ _ ?_;clear HT3 HP3 HK3;go_wp2_with fail
  clear c3;go_loopw [7,49] (fun _ i wr=>∃k:Nat,k≤N∧i=.int .i64 k∧Hid (Below w1.heap.size w1 wr)∧Hid (∀i,i < k→∀op n nm A N C kids rest,E.drop i=.cons op n nm A N C kids rest→(∃j:Nat,op=j∧dG[j]?=some (N:Int))∧ev kids)) (fun _ i _=>N - (intOf i).toNat)
  case atStart=>exact ⟨0,Nat.zero_le _,rfl,HB4.out,fun i hi=>by omega⟩
  case round=>
   obtain ⟨k,hk,rfl,hB,hGd⟩:=hrel;by_cases hlt:k < N
   ·obtain ⟨b,o,op',n',nm',A',N',C',kids,rest,hA,hb,hr,e1,e2,hkd,hop',_,hnm',_,hks⟩:=(HE.below (hB.out.mono HLO.out)).spot hlt;subst hA;have HR:=aa hr;have HE1:=aa e1;have HCD:Hid (∀wk,Below wr.heap.size wr wk→Calls Tryz.prog 255 #[.agg (exC op' n' nm' A' N' C').toArray] wk fun e w'=>il e∧Below wk.heap.size wk w'):=fun wk hwk=>wH kids wk op' n' nm' A' N' C' ((hkd.below (hwk.mono (Nat.le_trans HLO.out hB.out.size))).more (Nat.le_trans (Nat.le_trans HLO.out hB.out.size) hwk.size)) (by omega);have HCC:Hid (∀wk,Below wr.heap.size wr wk→Calls Tryz.prog 256 #[.pointer (some ⟨g,0,none⟩),.agg (exC op' n' nm' A' N' C').toArray] wk fun e w'=>kK ((∃j:Nat,op'=j∧dG[j]?=some (N' : Int))∧ev kids) e∧Below wk.heap.size wk w'):=fun wk hwk=>tM kids wk lo g mb c op' n' nm' A' N' C' ((HC.later hB.out).later hwk) (hkd.below (hwk.mono (Nat.le_trans HLO.out hB.out.size))) ((HLA.later hB.out).later hwk) h6 (Nat.le_trans (Nat.le_trans HLO.out hB.out.size) hwk.size) (by omega) hnm' hop';clear hkd hr e1 e2 hks hop' hnm';go_wp2_with (first | (with_reducible refine wpList_load_mid rfl 257 _ rfl b (o+k*4) rfl (exC op' n' nm' A' N' C') _ HR.out Tryz.underlying257 rfl (aV _ _ _ _ _ _) ?_) | (with_reducible refine ah 257 _ _ rfl ?_))
    refine ak.go ?_;obtain ⟨g3,hg3⟩:∃q,wr.heap.size=q:=⟨_,rfl⟩;rw [hg3];refine an 257 _ _ rfl g3 hg3 (exC op' n' nm' A' N' C') rfl rfl rfl rfl (aV _ _ _ _ _ _) (gY _ _ _ _ _ _) ?_;intro w3 hk hbn;have HK3:=aa hk;have HB3:=aa hbn;clear hk hbn;go_wp2_with (with_reducible refine aj rfl 257 _ rfl g3 rfl (exC op' n' nm' A' N' C') 257 HK3.out _ Tryz.underlying257 rfl (aV _ _ _ _ _ _) ?_)
    refine (HCD.out _ HB3.out).mono ?_;rintro e w4 ⟨⟨v4,rfl⟩,hbn⟩;have HB5:=aa (ab HB3.out hbn);have HK5:=aa (HK3.later hbn);clear hbn;go_wp2_with fail
    refine (aD _ _ _ (by decide) _).mono ?_;rintro e w' ⟨⟨hmb,rfl⟩ | ⟨hmb,pn,ps,rfl,hpn⟩,rfl⟩;rotate_left
    ·exact bj (cx (bj (aA rfl ⟨.inr ⟨pn,ps,rfl,hpn⟩,Kp.of (ab HB.out (ab hB.out HB5.out)),((HC.later hB.out).later HB5.out).more (by omega)⟩)))
    clear hmb;go_wp2_with (with_reducible refine aj rfl 257 _ rfl g3 rfl (exC op' n' nm' A' N' C') 257 HK5.out _ Tryz.underlying257 rfl (aV _ _ _ _ _ _) ?_)
    refine (HCC.out _ HB5.out).mono ?_;rintro e w6 ⟨⟨rfl,hG⟩ | ⟨pn,ps,rfl,hpn⟩,hbn⟩;rotate_left
    ·exact bj (cx (bj (aA rfl ⟨.inr ⟨pn,ps,rfl,hpn⟩,Kp.of (ab HB.out (ab hB.out (ab HB5.out hbn))),((HC.later hB.out).later (ab HB5.out hbn)).more (by omega)⟩)))
    have HG4:=aa hG;have HB6:=aa (ab hB.out (ab HB5.out hbn));clear hG hbn;go_wp2_with fail
    go_roundw
    case rel=>exact ⟨k+1,by omega,by go_num,HB6.out,fun i hi op n nm A N C kd rs he=>by
     by_cases hik:i < k
     ·exact hGd.out i hik op n nm A N C kd rs he
     ·obtain rfl:i=k:=by omega
      rw [HE1.out] at he;cases he;exact HG4.out⟩
    case measure=>simp [intOf];omega
   ·have HGE:Hid (ev E):=np hGd.out (by have:=HN.out;omega);have d0:wr.cell? ⟨z,0,none⟩=some (.int .i64 j):=(HK.later hB.out).cell 0;have d1:wr.cell? ⟨z,1,none⟩=some (.string nm):=(HK.later hB.out).cell 1;have d5:wr.cell? ⟨z,5,none⟩=some (.slice A1 N1 C1):=(HK.later hB.out).cell 5;have HKr:=aa (HK.later hB.out);have HCr:=aa (HC.later hB.out);have HKP:=aa (Kp.of (g:=g) (mb:=mb) (ab HB.out hB.out));have HLO2:=aa (Nat.le_trans HLO.out hB.out.size);have HLr:=aa (HL1.below (hB.out.mono HLO.out));have HMr:=aa (HM1.below (hB.out.mono HLO.out));have HLAr:=aa (HLA.later hB.out);cases h2:((j:Int) == 2);rotate_left
    ·go_wp2_with fail
     refine (HBL.out wr lo g mb c A1 N1 C1 false none 0 0 [] HCr.out HLr.out HLAr.out h6 HLO2.out (by omega) (gb.nil _ _ _) (by omega) (by omega)).mono ?_;rintro e w5 ⟨⟨rfl,hG⟩ | ⟨pn,ps,rfl,hpn⟩,hkp,hck⟩;rotate_left
     ·exact aA rfl ⟨.inr ⟨pn,ps,rfl,hpn⟩,HKP.trans hkp,hck.more (by omega)⟩
     have HGL:=aa hG;have HP5:=aa hkp;have HC5:=aa hck;clear hG hkp hck d5;have d6:w5.cell? ⟨z,6,none⟩=some (.slice A2 N2 C2):=(HP5.keep HKr.out HZN.out.1 HZN.out.2).cell 6;have HB6:=aa (HP5.below HG1.out.1 HG1.out.2 HLO2.out);go_wp2_with fail
     refine (HBM.out w5 lo g mb _ A2 N2 C2 false none 0 0 [] HC5.out (HMr.below HB6.out) (HLAr.below h6 HB6.out) h6 (Nat.le_trans HLO2.out HB6.size) (by omega) (gb.nil _ _ _) (by omega) (by omega)).mono ?_;rintro e w6 ⟨⟨rfl,hG⟩ | ⟨pn,ps,rfl,hpn⟩,hkp,hck⟩;rotate_left
     ·exact aA rfl ⟨.inr ⟨pn,ps,rfl,hpn⟩,HKP.trans (HP5.trans hkp),hck.more (by omega)⟩
     have HGM:=aa hG;have HP6:=aa hkp;have HC6:=aa hck;clear hG hkp hck d6;go_wp2_with fail
     refine bodyPost_end (results_none rfl _ _ _) rfl ?_;exact ⟨.inl ⟨rfl,HG.out,HGE.out,fun _=>⟨HGL.out,HGM.out⟩,fun h=>by rw [h] at h2;simp at h2⟩,HKP.trans (HP5.trans HP6.out),HC6.more (by omega)⟩
    cases h3:((j:Int) == 3);rotate_left
    ·obtain ⟨part5,fors5,hk5⟩:=(HCr.out).bk;have HK5:=aa hk5;have e2:wr.cell? ⟨g,2,none⟩=some (.int .i64 fors5):=hk5.cell 2;clear hk5;go_wp2_with (with_reducible refine ah 3 _ _ rfl ?_)
     refine ak.go ?_;refine ae rfl 3 _ _ rfl g 2 (.int .i64 _) [.int .i64 _] rfl rfl rfl 180 [.map (some mb),.string part5] [.int .i64 fors5] [] (HK5.out) rfl rfl (by kernel_rfl) (by intro x hx;simp at hx;subst hx;rfl) ?_;intro w5 hp;have HC5:=aa (HCr.turned hp.only ⟨part5,_,by have:=hp.bk;simpa using this⟩);have HP5:=aa ((Kp.refl g mb wr).bk hp.only);clear hp e2 d1 d5;have d1:w5.cell? ⟨z,1,none⟩=some (.string nm):=(HP5.keep HKr.out HZN.out.1 HZN.out.2).cell 1;have d5:w5.cell? ⟨z,5,none⟩=some (.slice A1 N1 C1):=(HP5.keep HKr.out HZN.out.1 HZN.out.2).cell 5;go_wp2_with (with_reducible refine a8 126 _ _ rfl ?_)
     refine ak.go ?_;refine ar rfl 126 1 _ rfl #[(0,.string nm)] ?_ 9 [.string nm] (fun w=>rk nm w) ?_
     ·simp [Act.eval,Act.put]
     intro q6 w6 hq6 hb6 hbn;have HC6:=aa (HC5.later hbn);have HP6:=aa (HP5.then hbn);have HNB:=aa hb6;have HQ6:Hid (q6≠g∧q6≠mb):=by have:=HC5.lt;show _∧_;omega
     clear hq6 hb6 hbn d1 d5;have HB6:=aa (HP6.below HG1.out.1 HG1.out.2 HLO2.out);have HNM:Hid (gb g mb w6 (some ⟨q6,0,none⟩) 1 [nm]):=⟨rfl,fun s hs=>by simp at hs;subst hs;exact hnm,.inr ⟨q6,0,rfl,HQ6.out.1,HQ6.out.2,fun k s hs=>by
      cases k with
      | zero=>simp at hs;subst hs;exact HNB.cell 0
      | succ k=>simp at hs⟩⟩
     go_wp2_with fail
     refine (HBL.out w6 lo g mb _ A1 N1 C1 false _ 1 1 [nm] HC6.out (HLr.below HB6.out) (HLAr.below h6 HB6.out) h6 (Nat.le_trans HLO2.out HB6.size) (by omega) HNM.out (by omega) (by omega)).mono ?_;rintro e w7 ⟨⟨rfl,hG⟩ | ⟨pn,ps,rfl,hpn⟩,hkp,hck⟩;rotate_left
     ·exact aA rfl ⟨.inr ⟨pn,ps,rfl,hpn⟩,HKP.trans (HP6.trans hkp),hck.more (by omega)⟩
     have HGL:=aa hG;have HP7:=aa (HP6.trans hkp);have HC7:=aa hck;clear hG hkp hck;obtain ⟨part7,fors7,hk7⟩:=(HC7.out).bk;have HK7:=aa hk7;have e2:w7.cell? ⟨g,2,none⟩=some (.int .i64 fors7):=hk7.cell 2;clear hk7;go_wp2_with (with_reducible refine ah 3 _ _ rfl ?_)
     refine ak.go ?_;refine ae rfl 3 _ _ rfl g 2 (.int .i64 _) [.int .i64 _] rfl rfl rfl 180 [.map (some mb),.string part7] [.int .i64 fors7] [] (HK7.out) rfl rfl (by kernel_rfl) (by intro x hx;simp at hx;subst hx;rfl) ?_;intro w8 hp;have HC8:=aa (HC7.turned hp.only ⟨part7,_,by have:=hp.bk;simpa using this⟩);have HP8:=aa (HP7.bk hp.only);clear hp e2;go_wp2_with fail
     refine bodyPost_end (results_none rfl _ _ _) rfl ?_;exact ⟨.inl ⟨rfl,HG.out,HGE.out,(fun h=>by rw [h] at h2;simp at h2),fun _=>HGL.out⟩,HKP.trans HP8.out,HC8.more (by omega)⟩
    go_wp2_with fail
    refine bodyPost_end (results_none rfl _ _ _) rfl ?_;exact ⟨.inl ⟨rfl,HG.out,HGE.out,(fun h=>by rw [h] at h2;simp at h2),fun h=>by rw [h] at h3;simp at h3⟩,HKP.out,HCr.more (by omega)⟩
end Go.Proofs.YtllbdpdnpaocnaaGreatDoor
