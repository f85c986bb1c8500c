/- Part of the proof of WholeStep. -/
import Derived.Test.YtllbdpdnpaocnaaGreatDoorZAG
namespace Go.Proofs.YtllbdpdnpaocnaaGreatDoor
set_option linter.unusedSimpArgs false
set_option linter.unusedVariables false
set_option linter.constructorNameAsVariable false
open Go.RowKit Go.Maps
theorem cS {P:Program} {fn:Func} {R:Ending→World→Prop} {a:Act} {w:World} {ch:List PanicEntry} (h:Leaves P fn a.tmps R a.defers (.panicking ch) w):bodyPostD P fn R (.panic ch) a w:=h
set_option maxRecDepth 20000 in
set_option maxHeartbeats 2000000 in
theorem tN (F:Ss):rl F:=by
 obtain ⟨m,hm⟩:∃m,F.size=m:=⟨_,rfl⟩;induction m using Nat.strongRecOn generalizing F with
 | ind m ih=>
  intro w lo g mb c A N C top NA NN NC L hc hF hLA h6 hlo hFz hNm hNN hcc;have hmf:∀(fn:Fn) (first cap:Array Value) (w:World),(Instr.makeFunc fn first cap).run Tryz.prog w=.ok (.func fn first cap) w:=fun _ _ _ _=>rfl;have hN2:N≤1048576:=by have:=hF.len;have:=Ss.len_size F;omega
  obtain ⟨z,hz⟩:∃z,w.heap.size=z:=⟨_,rfl⟩;have hzn:(z≠g∧z≠mb)∧(z+1≠g∧z+1≠mb):=by have:=hc.lt;omega
  obtain ⟨w1,hw1⟩:∃w1,(w.alloc (.cells #[.pointer (some ⟨g,0,none⟩)] 177)).alloc (.cells #[.slice NA NN NC] 126)=w1:=⟨_,rfl⟩;have hk4:Bk w1 z 177 [.pointer (some ⟨g,0,none⟩)]:=hw1▸(Bk.at_ w _ _ hz rfl).alloc _;have hk7:Bk w1 (z+1) 126 [.slice NA NN NC]:=hw1▸Bk.at_ _ _ _ (by simp [hz]) rfl;have hb:Below w.heap.size w w1:=hw1▸(ai w _).alloc (by simp) _;have HW:=aa hw1;have HB:=aa hb;have HZ:=aa hz;have HK4:=aa hk4;have HK7:=aa hk7;have HC:=aa (hc.later hb);have HLA:=aa (hLA.later hb);have HZN:=aa hzn;have HF:=aa (hF.below (hb.mono hlo));have HLO:=aa (Nat.le_trans hlo hb.size);have HN:=aa hF.len;have HG1:=aa hc.lo;have HNM:=aa (hNm.kp (Kp.of hb));have HNN:=aa hNN;have HIH:=aa ih;have HM:=aa hm;clear hk4 hk7 hw1 hz hb hc hLA hF hlo hzn hNm ih hm;have d7:w1.cell? ⟨z+1,0,none⟩=some (.slice NA NN NC):=HK7.cell 0;go_enter_defers Tryz.func218,Tryz.ntmps218;go_upto_region 1 with fail
  rw [HW.out,HZ.out];go_wp2_with fail
  clear d7;go_loopw [9,14] (fun _ i wr=>∃k:Nat,k≤NN∧i=.int .i64 k∧Hid (Kp g mb w1 wr)∧Hid (Ck wr lo g mb (c+k))) (fun _ i _=>NN - (intOf i).toNat)
  case atStart=>exact ⟨0,Nat.zero_le _,rfl,Kp.refl _ _ _,HC.out⟩
  case round=>
   obtain ⟨k,hk,rfl,hKp,hCk⟩:=hrel;by_cases hlt:k < NN
   ·obtain ⟨b,o,s,hA,_,_,hs,hsz⟩:=(HNM.kp hKp.out).spot hlt;subst hA;obtain ⟨n9,D9,hm9,hn9⟩:=hCk.out.mp;obtain ⟨part9,fors9,hk9⟩:=hCk.out.bk;have e4:wr.cell? ⟨z,0,none⟩=some (.pointer (some ⟨g,0,none⟩)):=hKp.out.cell (HK4.cell 0) HZN.out.1.1 HZN.out.1.2;have e0:wr.cell? ⟨g,0,none⟩=some (.map (some mb)):=hk9.cell 0;have HM9:=aa hm9;have HNC:=aa hn9;have HX:=aa (WideMaps.keyOf_string_mk (P:=Tryz.prog) Tryz.underlying9 (s:=s) (by unfold maxLen;omega));clear hm9 hk9;go_wp2_with (at_mapUpdate;refine wpList_mapUpdate_own _ rfl _ _ _ 178 rfl 9 240 (string_keyed Tryz.underlying9) Tryz.underlying178 _ mb n9 D9 rfl HM9.out (by unfold maxLen;omega) _ _ _ rfl rfl HX.out _ [] (plainElem_int Tryz.underlying240 (by decide)) ?_;intro w8 hown8 hg8;have HK8:=aa (hKp.out.map hg8);have HC8:=aa (hCk.out.mapped (c':=c+(k+1)) hg8 ⟨_,_,hown8,Nat.succ_le_succ HNC.out⟩);clear hown8 hg8)
    go_roundw
    case rel=>exact ⟨k+1,by omega,by go_num,HK8,HC8⟩
    case measure=>simp [intOf];omega
   ·obtain rfl:NN=k:=by omega
    have HKr:=aa hKp.out;have HCr:=aa hCk.out;clear hKp hCk;go_wp2_with fail
    go_loopw [10,11,27] (fun _ _ i wx=>∃(k cc:Nat),k≤N∧i=.int .i64 k∧Hid (Kp g mb w1 wx)∧Hid (cc+(F.drop k).size≤c+NN+F.size)∧Hid (Ck wx lo g mb cc)∧Hid (∀i,i < k→∀kd nm A N C E l h A1 N1 C1 L A2 N2 C2 M rest,F.drop i=.cons kd nm A N C E l h A1 N1 C1 L A2 N2 C2 M rest→pV kd N E L M)) (fun _ _ i _=>N - (intOf i).toNat)
    case atStart=>exact ⟨0,c+NN,Nat.zero_le _,rfl,HKr.out,by show _≤_;rw [Ss.drop_zero];exact Nat.le_refl _,HCr.out,fun i hi=>by omega⟩
    case round=>
     obtain ⟨k,cc,hk,rfl,hKp,hcq,hCk,hGd⟩:=hrel;have hBl:=aa (hKp.out.below HG1.out.1 HG1.out.2 HLO.out);by_cases hlt:k < N
     ·obtain ⟨b,o,kd,nm,A',N',C',E,l,h,A1,N1,C1,L',A2,N2,C2,M',rest,hA,hb,hr,e1,e2,hst,hks⟩:=(HF.below hBl.out).spot hlt;subst hA;have HR:=aa hr;have HE1:=aa e1;have hcz:=hcq.out;rw [e1,Ss.size] at hcz;have HCZ:Hid ((cc+L'.size+M'.size+1)+(F.drop (k+1)).size≤c+NN+F.size):=by show _≤_;rw [e2];omega
      have HLO2:=aa (Nat.le_trans HLO.out hKp.out.size);have HCC:Hid (∀wk,Below wr.heap.size wr wk→∀last,Calls Tryz.prog 241 #[.pointer (some ⟨g,0,none⟩),.agg (aR kd nm A' N' C' l h A1 N1 C1 A2 N2 C2).toArray,.bool last] wk fun e w'=>kK (pV kd N' E L' M') e∧Kp g mb wk w'∧Ck w' lo g mb (cc+L'.size+M'.size+1)):=fun wk hwk last=>
       yh L' M' (HIH.out L'.size (by have:=HM.out;omega) L' rfl) (HIH.out M'.size (by have:=HM.out;omega) M' rfl) wk lo g mb cc kd nm A' N' C' E l h A1 N1 C1 A2 N2 C2 last (hCk.out.later hwk)
        ⟨hst.kd,hst.lo,hst.hi,hst.nm,hst.e.below (hwk.mono HLO2.out),hst.l.below (hwk.mono HLO2.out),hst.m.below (hwk.mono HLO2.out),hst.ec,hst.lc,hst.mc⟩ ((HLA.below h6 hBl.out).later hwk) h6 (Nat.le_trans HLO2.out hwk.size) (by omega) (by omega)
      clear hst hr e1 e2 hks hcz;go_wp2_with (first | (with_reducible refine wpList_load_mid rfl 186 _ rfl b (o+k*7) rfl (aR kd nm A' N' C' l h A1 N1 C1 A2 N2 C2) _ HR.out Tryz.underlying186 rfl (bK _ _ _ _ _ _ _ _ _ _ _ _ _) ?_) | (with_reducible refine ah 186 _ _ rfl ?_))
      refine ak.go ?_;obtain ⟨g3,hg3⟩:∃q,wr.heap.size=q:=⟨_,rfl⟩;rw [hg3];refine an 186 _ _ rfl g3 hg3 (aR kd nm A' N' C' l h A1 N1 C1 A2 N2 C2) rfl rfl rfl rfl (bK _ _ _ _ _ _ _ _ _ _ _ _ _) (f4 _ _ _ _ _ _ _ _ _ _ _ _ _) ?_;intro w3 hk hbn;have HK3:=aa hk;have HB3:=aa hbn;clear hk hbn;have HP3:=aa (hKp.out.then HB3.out);have d4:w3.cell? ⟨z,0,none⟩=some (.pointer (some ⟨g,0,none⟩)):=HP3.cell (HK4.cell 0) HZN.out.1.1 HZN.out.1.2;cases top with
      | false=>
       go_wp2_with (with_reducible refine aj rfl 186 _ rfl g3 rfl (aR kd nm A' N' C' l h A1 N1 C1 A2 N2 C2) 186 HK3.out _ Tryz.underlying186 rfl (bK _ _ _ _ _ _ _ _ _ _ _ _ _) ?_)
       refine (HCC.out _ HB3.out _).mono ?_;rintro e w4 ⟨⟨rfl,hG⟩ | ⟨pn,ps,rfl,hpn⟩,hkp4,hck4⟩;rotate_left
       ·refine bj (cx (cS ?_));refine leaves_cons (f:=240) (args:=#[.pointer (some ⟨z+1,0,none⟩),.pointer (some ⟨z,0,none⟩)]) (by simp) (by simp [go_sem]) ?_;refine (oq _ lo g mb _ hck4 z (z+1) NA NN NC L (HNM.kp (HP3.trans hkp4)) HNN.out (((HP3.trans hkp4)).keep HK4.out HZN.out.1.1 HZN.out.1.2) (((HP3.trans hkp4)).keep HK7.out HZN.out.2.1 HZN.out.2.2) HZN.out.1 HZN.out.2 _).mono ?_;rintro e u9 w9 ⟨rfl,rfl,hkp,hck⟩;exact ⟨.inr ⟨pn,ps,rfl,hpn⟩,(Kp.of HB.out).trans ((HP3.trans hkp4).trans hkp),hck.more (by have:=HCZ.out;omega)⟩
       have HG4:=aa hG;have HP4:=aa (HP3.trans hkp4);have HC4:=aa hck4;clear hG hkp4 hck4 d4;go_wp2_with fail
       go_roundw
       case rel=>exact ⟨k+1,_,by omega,by go_num,HP4.out,HCZ.out,HC4.out,fun i hi kd nm A N C E l h A1 N1 C1 L A2 N2 C2 M rest he=>by
        by_cases hik:i < k
        ·exact hGd.out i hik kd nm A N C E l h A1 N1 C1 L A2 N2 C2 M rest he
        ·obtain rfl:i=k:=by omega
         rw [HE1.out] at he;cases he;exact HG4.out⟩
       case measure=>simp [intOf];omega
      | true=>
       go_wp2_with (with_reducible refine aj rfl 186 _ rfl g3 rfl (aR kd nm A' N' C' l h A1 N1 C1 A2 N2 C2) 186 HK3.out _ Tryz.underlying186 rfl (bK _ _ _ _ _ _ _ _ _ _ _ _ _) ?_)
       refine (HCC.out _ HB3.out _).mono ?_;rintro e w4 ⟨⟨rfl,hG⟩ | ⟨pn,ps,rfl,hpn⟩,hkp4,hck4⟩;rotate_left
       ·refine bj (cx (cS ?_));refine leaves_cons (f:=240) (args:=#[.pointer (some ⟨z+1,0,none⟩),.pointer (some ⟨z,0,none⟩)]) (by simp) (by simp [go_sem]) ?_;refine (oq _ lo g mb _ hck4 z (z+1) NA NN NC L (HNM.kp (HP3.trans hkp4)) HNN.out (((HP3.trans hkp4)).keep HK4.out HZN.out.1.1 HZN.out.1.2) (((HP3.trans hkp4)).keep HK7.out HZN.out.2.1 HZN.out.2.2) HZN.out.1 HZN.out.2 _).mono ?_;rintro e u9 w9 ⟨rfl,rfl,hkp,hck⟩;exact ⟨.inr ⟨pn,ps,rfl,hpn⟩,(Kp.of HB.out).trans ((HP3.trans hkp4).trans hkp),hck.more (by have:=HCZ.out;omega)⟩
       have HG4:=aa hG;have HP4:=aa (HP3.trans hkp4);have HC4:=aa hck4;clear hG hkp4 hck4 d4;go_wp2_with fail
       go_roundw
       case rel=>exact ⟨k+1,_,by omega,by go_num,HP4.out,HCZ.out,HC4.out,fun i hi kd nm A N C E l h A1 N1 C1 L A2 N2 C2 M rest he=>by
        by_cases hik:i < k
        ·exact hGd.out i hik kd nm A N C E l h A1 N1 C1 L A2 N2 C2 M rest he
        ·obtain rfl:i=k:=by omega
         rw [HE1.out] at he;cases he;exact HG4.out⟩
       case measure=>simp [intOf];omega
     ·go_wp2_with fail
      refine leaves_cons (f:=240) (args:=#[.pointer (some ⟨z+1,0,none⟩),.pointer (some ⟨z,0,none⟩)]) (by simp) (by simp [go_sem]) ?_;refine (oq _ lo g mb _ hCk.out z (z+1) NA NN NC L (HNM.kp hKp.out) HNN.out ((hKp.out).keep HK4.out HZN.out.1.1 HZN.out.1.2) ((hKp.out).keep HK7.out HZN.out.2.1 HZN.out.2.2) HZN.out.1 HZN.out.2 _).mono ?_;rintro e u9 w9 ⟨rfl,rfl,hkp,hck⟩;exact ⟨_,results_none rfl _ _ _,.inl ⟨rfl,rj hGd.out (by have:=HN.out;omega)⟩,(Kp.of HB.out).trans (hKp.out.trans hkp),hck.more (by have:=hcq.out;omega)⟩
theorem Tryz.infoSt:(Tryz.prog.info? 9).map (fun i=>(i.zero,i.size,i.bytes))=some (some (.string ⟨#[]⟩),1,16):=by kernel_rfl
theorem gb.of_own {g mb base:Nat} {w:World} {T:TypeId} {A:Option Addr} {N C:Nat} {L:List ByteArray} (h:w.ownsRow base T 1 (.slice A N C) N (L.map .string)) (hg:g < base) (hm:mb < base) (hok:∀s∈L,s.size≤1048576):gb g mb w A N L:=by
 have hl:L.length=N:=by have:=h.1;simpa using this
 refine ⟨hl,hok,?_⟩;by_cases hn:N=0
 ·exact .inl hn
 ·obtain ⟨b,cap,hv,hb,hlt⟩:=h.form (by omega);injection hv with hA _ _
  subst hA;have hc:=h.cells (g:=b) rfl;refine .inr ⟨b,0,rfl,by omega,by omega,fun k s hs=>?_⟩;have:=hc k (.string s) (by rw [List.getElem?_map,hs];rfl);cases k <;> simpa [Addr.add] using this
set_option maxRecDepth 20000 in
theorem iB (w:World) (lo g mb c:Nat) (part:ByteArray) (A:Option Addr) (N C:Nat) (F:Ss) (NA:Option Addr) (NN NC:Nat) (L:List ByteArray) (hc:Ck w lo g mb c) (hF:cE w lo A N F) (hLA:cX w) (h6:6≤lo) (hlo:lo≤w.heap.size) (hFz:F.size≤1048576) (hN:gb g mb w NA NN L) (hNN:NN≤1048576) (hcc:c+NN+F.size≤1073741824):Calls Tryz.prog 166 #[.pointer (some ⟨g,0,none⟩),.string part,.slice A N C,.slice NA NN NC] w fun e w'=>kK (ey F) e∧Kp g mb w w'∧Ck w' lo g mb (c+NN+F.size):=by
 obtain ⟨part5,fors5,hk5⟩:=hc.bk;have HK5:=aa hk5;have HC:=aa hc;have HF:=aa hF;have HLA:=aa hLA;have HNM:=aa hN;clear hk5 hc hF hLA hN;go_enter Tryz.func166,Tryz.ntmps166;go_wp2_with (with_reducible refine ah 9 _ _ rfl ?_)
 refine ak.go ?_;refine ae rfl 9 _ _ rfl g 1 (.string part) [.string part] rfl rfl rfl 180 [.map (some mb)] [.string part5] [.int .i64 fors5] (HK5.out) rfl rfl (by kernel_rfl) (by intro x hx;simp at hx;subst hx;rfl) ?_;intro w5 hp;have HC5:=aa (HC.turned hp.only ⟨part,_,by have:=hp.bk;simpa using this⟩);have HP5:=aa ((Kp.refl g mb w).bk hp.only);clear hp;have HB5:=aa (HP5.below HC.lo.1 HC.lo.2 hlo);go_wp2_with fail
 refine (tN F w5 lo g mb c A N C true NA NN NC L HC5.out (HF.below HB5.out) (HLA.below h6 HB5.out) h6 (Nat.le_trans hlo HB5.size) hFz (HNM.kp HP5.out) hNN hcc).mono ?_;rintro e w7 ⟨⟨rfl,hG⟩ | ⟨pn,ps,rfl,hpn⟩,hkp,hck⟩;rotate_left
 ·exact aA rfl ⟨.inr ⟨pn,ps,rfl,hpn⟩,HP5.trans hkp,hck⟩
 have HGL:=aa hG;have HP7:=aa (HP5.trans hkp);have HC7:=aa hck;clear hG hkp hck;go_wp2_with fail
 refine bodyPost_end (results_none rfl _ _ _) rfl ?_;exact ⟨.inl ⟨rfl,HGL.out⟩,HP7.out,HC7.out⟩
set_option maxRecDepth 20000 in
theorem vM (F:Ss):∀(w:World) (A:Option Addr) (N C:Nat),cE w w.heap.size A N F→F.size≤1048576→Calls Tryz.prog 109 #[.slice A N C] w fun e w'=>fq e∧Below w.heap.size w w':=by
 obtain ⟨m,hm⟩:∃m,F.size=m:=⟨_,rfl⟩;induction m using Nat.strongRecOn generalizing F with
 | ind m ih=>
  intro w A N C hF hsz;have HF:=aa hF;have HIH:=aa ih;have HM:=aa hm;have hNF:=hF.len;have HN:=aa hNF;have hN2:N≤1048576:=by have:=Ss.len_size F;omega
  clear ih hm hNF hF;go_enter Tryz.func109,Tryz.ntmps109;go_wp2_with fail
  go_loopw [4,7] (fun _ i wr=>∃(k:Nat),k≤N∧i=.int .i64 k∧Hid (Below w.heap.size w wr)) (fun _ i _=>N - (intOf i).toNat)
  case atStart=>exact ⟨0,Nat.zero_le _,rfl,Below.refl _ _⟩
  case round=>
   obtain ⟨k,hk,rfl,hB⟩:=hrel;by_cases hlt:k < N
   ·obtain ⟨b,o,kd,nm,A',N',C',E,lo,hi,A1,N1,C1,L,A2,N2,C2,M,rest,hA,hb,hr,e1,e2,hst,hks⟩:=(HF.below hB.out).spot hlt;subst hA;have HC1:Hid (∀wk,Below wr.heap.size wr wk→Calls Tryz.prog 109 #[.slice A1 N1 C1] wk fun e w'=>fq e∧Below wk.heap.size wk w'):=fun wk hwk=>HIH.out L.size (by have:=HM.out;omega) L rfl wk A1 N1 C1 ((hst.l.more hB.out.size).later hwk) (by omega);have HC2:Hid (∀wk,Below wr.heap.size wr wk→Calls Tryz.prog 109 #[.slice A2 N2 C2] wk fun e w'=>fq e∧Below wk.heap.size wk w'):=fun wk hwk=>HIH.out M.size (by have:=HM.out;omega) M rfl wk A2 N2 C2 ((hst.m.more hB.out.size).later hwk) (by omega);have HR:=aa hr;clear hst hr e1 e2 hks;go_wp2_with (first | (with_reducible refine wpList_load_mid rfl 186 _ rfl b (o+k*7) rfl (aR kd nm A' N' C' lo hi A1 N1 C1 A2 N2 C2) _ HR.out Tryz.underlying186 rfl (bK _ _ _ _ _ _ _ _ _ _ _ _ _) ?_) | (with_reducible refine ah 186 _ _ rfl ?_))
    refine ak.go ?_;obtain ⟨g2,hg2⟩:∃q,wr.heap.size=q:=⟨_,rfl⟩;rw [hg2];refine an 186 _ _ rfl g2 hg2 (aR kd nm A' N' C' lo hi A1 N1 C1 A2 N2 C2) rfl rfl rfl rfl (bK _ _ _ _ _ _ _ _ _ _ _ _ _) (f4 _ _ _ _ _ _ _ _ _ _ _ _ _) ?_;intro w2 hk hbn;have HK2:=aa hk;have HB2:=aa hbn;clear hk hbn;have d0:w2.cell? ⟨g2,0,none⟩=some (.int .i64 kd):=HK2.cell 0;have d5:w2.cell? ⟨g2,5,none⟩=some (.slice A1 N1 C1):=HK2.cell 5;by_cases h6:kd=6
    ·go_wp2_with fail
     go_ret;exact ⟨⟨_,rfl⟩,ab hB.out HB2.out⟩
    by_cases h7:kd=7
    ·go_wp2_with fail
     go_ret;exact ⟨⟨_,rfl⟩,ab hB.out HB2.out⟩
    by_cases h2:kd=2
    ·go_wp2_with fail
     refine (HC1.out _ HB2.out).mono ?_;rintro e w3 ⟨⟨x,rfl⟩,hbn⟩;have HB3:=aa (ab HB2.out hbn);have d6:w3.cell? ⟨g2,6,none⟩=some (.slice A2 N2 C2):=(HK2.later hbn).cell 6;clear hbn d0 d5;cases x with
     | false=>
      go_wp2_with fail
      go_roundw
      case rel=>exact ⟨k+1,by omega,by go_num,ab hB.out HB3.out⟩
      case measure=>simp [intOf];omega
     | true=>
      go_wp2_with fail
      refine (HC2.out _ HB3.out).mono ?_;rintro e w4 ⟨⟨x,rfl⟩,hbn⟩;have HB4:=aa (ab HB3.out hbn);clear hbn d6;cases x with
      | false=>
       go_wp2_with fail
       go_roundw
       case rel=>exact ⟨k+1,by omega,by go_num,ab hB.out HB4.out⟩
       case measure=>simp [intOf];omega
      | true=>
       go_wp2_with fail
       go_ret;exact ⟨⟨_,rfl⟩,ab hB.out HB4.out⟩
    ·go_wp2_with fail
     go_roundw
     case rel=>exact ⟨k+1,by omega,by go_num,ab hB.out HB2.out⟩
     case measure=>simp [intOf];omega
   ·go_wp2_with fail
    go_ret;exact ⟨⟨_,rfl⟩,hB.out⟩
def zg (p:PgT):Prop:=ey p.stL∧ey p.tuL∧ey p.plL∧ey p.quL∧ey p.pyL
set_option maxRecDepth 20000 in
set_option maxHeartbeats 1000000 in
theorem rm (w:World) (lo g mb c:Nat) (hc:Ck w lo g mb c) (p:PgT) (h:cI w lo p) (hLA:cX w) (h6:6≤lo) (hlo:lo≤w.heap.size) (hcc:c≤536870912):Calls Tryz.prog 108 #[.pointer (some ⟨g,0,none⟩),.agg (pgC p).toArray] w fun e w'=>kK (zg p) e∧Kp g mb w w'∧Ck w' lo g mb (c+4194304):=by
 obtain ⟨z,hz⟩:∃z,w.heap.size=z:=⟨_,rfl⟩;have hzn:z≠g∧z≠mb:=by have:=hc.lt;omega
 obtain ⟨w1,hw1⟩:∃w1,w.alloc (.cells (pgC p).toArray 66)=w1:=⟨_,rfl⟩;have hk:Bk w1 z 66 (pgC p):=hw1▸Bk.at_ w _ _ hz rfl;have hb:Below w.heap.size w w1:=hw1▸ai w _;have hN2:p.pa.N≤1048576:=by have:=h.few;have:=h.pa.len;unfold PgT.size at *; omega
 have HSZ:Hid (p.stL.size+p.tuL.size+p.plL.size+p.quL.size+p.pyL.size≤1048576):=by have:=h.few;unfold PgT.size at this;show _≤_;omega
 have hsi:=h.si;have HW:=aa hw1;have HB:=aa hb;have HPG:=aa (h.below (hb.mono hlo));have HZ:=aa hz;have HK:=aa hk;have HLA:=aa (hLA.later hb);have HC:=aa (hc.later hb);have HZN:=aa hzn;have HLO:=aa (Nat.le_trans hlo hb.size);have HG1:=aa hc.lo;have HLN:=aa h.pa.len;have HGL:Hid (g < w1.heap.size∧mb < w1.heap.size):=(hc.later hb).lt;have c6:=hk.cell 6;simp only [pgC,List.getElem?_cons_succ,List.getElem?_cons_zero] at c6;clear hk hw1 hz hb hc hLA h hlo hzn;go_enter Tryz.func108,Tryz.ntmps108;go_upto_region 1 with fail
 rw [HW.out,HZ.out];go_wp2_with fail
 clear c6;go_loopw [4,6,10] (fun ov _ i wr=>∃(k:Nat) (v:Value),k≤p.pa.N∧i=.int .i64 k∧v=ov∧Hid (wr.ownsRow w1.heap.size 9 1 v k (((p.paL.take k).map (·.nm)).map .string))∧Hid (Below w1.heap.size w1 wr)) (fun _ _ i _=>p.pa.N - (intOf i).toNat)
 case atStart=>exact ⟨0,_,Nat.zero_le _,rfl,rfl,World.ownsRow_nil _ _ _ _,Below.refl _ _⟩
 case round=>
  obtain ⟨k,v,hk,rfl,rfl,HO,hB⟩:=hrel;obtain ⟨A0,c0,rfl⟩:=aI HO.out;by_cases hlt:k < p.pa.N
  ·obtain ⟨b,o,x,hA,hb,hr,hx,hok⟩:=(HPG.pa.below (hB.out.mono HLO.out)).spot hlt;rw [hA];have HR:=aa hr;have HX:=aa hx;clear hr hx hok;go_wp2_with (first | (with_reducible refine wpList_load_mid rfl 117 _ rfl b (o+k*4) rfl (vaC x) _ HR.out Tryz.underlying117 rfl (aQ x) ?_) | (with_reducible refine ah 117 _ _ rfl ?_))
   refine ak.go ?_;obtain ⟨g2,hg2⟩:∃q,wr.heap.size=q:=⟨_,rfl⟩;rw [hg2];refine an 117 _ _ rfl g2 hg2 (vaC x) rfl rfl rfl rfl (aQ x) (bw x) ?_;intro w2 hk hbn;have HK2:=aa hk;have HB2:=aa hbn;clear hk hbn;have d0:w2.cell? ⟨g2,0,none⟩=some (.string x.nm):=HK2.cell 0;go_wp2_with (with_reducible refine a8 126 1 _ rfl ?_)
   refine ak.go ?_;refine ar (by rfl) 126 1 _ rfl #[(0,.string x.nm)] (by simp [Act.eval,Act.put]) 9 [.string x.nm] (fun w=>rk x.nm w) ?_;intro q3 w3 hq3 hk3 hb3;have HN3:=aa hk3;have HB3:=aa (ab HB2.out hb3);have HO3:=aa (az HO.out (ab HB2.out hb3));clear hq3 hk3 hb3 d0;obtain ⟨i0,hi,hi0,hi1,hi2⟩:=info_parts Tryz.infoSt;have hbw:w1.heap.size≤w3.heap.size:=(ab hB.out HB3.out).size;go_wp2_with (at_builtin;refine bm _ rfl (.tmp 14) (.tmp 17) 126 rfl w1.heap.size 9 i0 _ _ _ Tryz.underlying126 hi hi0 hi1 hi2 rfl (by decide) _ _ _ rfl HO3.out _ _ _ _ _ rfl (HN3.sl (n:=1) rfl (by omega) (fun _ _ h=>h)) (by intro y hy;simp at hy;subst hy;rfl) (by unfold maxLen;omega) (by omega) hbw ?_;intro v4 w4 hown hg hat;refine bA ?_)
   refine ak.go ?_;have HO4:Hid (w4.ownsRow w1.heap.size 9 1 v4 (k+1) (((p.paL.take (k+1)).map (·.nm)).map .string)):=by show World.ownsRow _ _ _ _ _ _ _;rw [cF HX.out,List.map_append,List.map_append];simpa using hown
   have HB4:=aa (aB (ab hB.out HB3.out) HO3.out hg (Nat.le_refl _) hbw);clear hown hg hat hi hi0 hi1 hi2 i0;go_wp2_with fail
   go_roundw
   case rel=>exact ⟨k+1,_,by omega,by go_num,rfl,HO4,HB4⟩
   case measure=>simp [intOf];omega
  ·obtain rfl:k=p.pa.N:=by omega
   have hnm:gb g mb wr A0 p.pa.N (p.paL.map (·.nm)):=by have h1:=HO.out;rw [List.take_of_length_le (by rw [HLN.out];exact Nat.le_refl _)] at h1;refine gb.of_own h1 HGL.out.1 HGL.out.2 (fun s hs=>?_);obtain ⟨v,hv,rfl⟩:=List.mem_map.1 hs;exact (HPG.pa.ok v hv).nm
   have HNM:=aa hnm;obtain ⟨w0,hw0⟩:∃w0,wr=w0:=⟨_,rfl⟩;rw [hw0] at HNM hB ⊢;have HP0:Hid (Kp g mb w1 w0):=Kp.of hB.out;have HC0:=aa (HC.later hB.out);have HBL0:=aa (HP0.below HG1.out.1 HG1.out.2 HLO.out);have HK0:=aa (HP0.keep HK.out HZN.out.1 HZN.out.2);clear hnm HO hw0;have d:w0.cell? ⟨z,4,none⟩=some (.slice p.st.A p.st.N p.st.C):=HK0.cell 4;go_wp2_with fail
   refine (iB w0 lo g mb _ _ p.st.A p.st.N p.st.C p.stL none 0 0 [] HC0.out (HPG.st.below HBL0.out) (HLA.below h6 HBL0.out) h6 (Nat.le_trans HLO.out HBL0.size) (by have:=HSZ.out;omega) (gb.nil _ _ _) (by omega) (by have:=HSZ.out;omega)).mono ?_;rintro e w2 ⟨⟨rfl,hG⟩ | ⟨pn,ps,rfl,hpn⟩,hkp,hck⟩;rotate_left
   ·exact aA rfl ⟨.inr ⟨pn,ps,rfl,hpn⟩,(Kp.of HB.out).trans (HP0.trans hkp),hck.more (by have:=HSZ.out;omega)⟩
   have HS2:=aa hkp;have HGD2:=aa hG;have HP2:=aa (HP0.trans hkp);have HC2:=aa hck;clear hG hkp hck;have HBL2:=aa (HP2.below HG1.out.1 HG1.out.2 HLO.out);have HK2:=aa (HP2.keep HK.out HZN.out.1 HZN.out.2);clear d;have d:w2.cell? ⟨z,5,none⟩=some (.slice p.tu.A p.tu.N p.tu.C):=HK2.cell 5;go_wp2_with fail
   refine (iB w2 lo g mb _ _ p.tu.A p.tu.N p.tu.C p.tuL none 0 0 [] HC2.out (HPG.tu.below HBL2.out) (HLA.below h6 HBL2.out) h6 (Nat.le_trans HLO.out HBL2.size) (by have:=HSZ.out;omega) (gb.nil _ _ _) (by omega) (by have:=HSZ.out;omega)).mono ?_;rintro e w3 ⟨⟨rfl,hG⟩ | ⟨pn,ps,rfl,hpn⟩,hkp,hck⟩;rotate_left
   ·exact aA rfl ⟨.inr ⟨pn,ps,rfl,hpn⟩,(Kp.of HB.out).trans (HP2.trans hkp),hck.more (by have:=HSZ.out;omega)⟩
   have HS3:=aa hkp;have HGD3:=aa hG;have HP3:=aa (HP2.trans hkp);have HC3:=aa hck;clear hG hkp hck;have HBL3:=aa (HP3.below HG1.out.1 HG1.out.2 HLO.out);have HK3:=aa (HP3.keep HK.out HZN.out.1 HZN.out.2);clear d;have d:w3.cell? ⟨z,7,none⟩=some (.slice p.pl.A p.pl.N p.pl.C):=HK3.cell 7;have HNM3:Hid (gb g mb w3 A0 p.pa.N (p.paL.map (·.nm))):=(HNM.kp HS2.out).kp HS3.out;go_wp2_with fail
   refine (iB w3 lo g mb _ _ p.pl.A p.pl.N p.pl.C p.plL A0 p.pa.N c0 (p.paL.map (·.nm)) HC3.out (HPG.pl.below HBL3.out) (HLA.below h6 HBL3.out) h6 (Nat.le_trans HLO.out HBL3.size) (by have:=HSZ.out;omega) HNM3.out (by omega) (by have:=HSZ.out;omega)).mono ?_;rintro e w4 ⟨⟨rfl,hG⟩ | ⟨pn,ps,rfl,hpn⟩,hkp,hck⟩;rotate_left
   ·exact aA rfl ⟨.inr ⟨pn,ps,rfl,hpn⟩,(Kp.of HB.out).trans (HP3.trans hkp),hck.more (by have:=HSZ.out;omega)⟩
   have HS4:=aa hkp;have HGD4:=aa hG;have HP4:=aa (HP3.trans hkp);have HC4:=aa hck;clear hG hkp hck;have HBL4:=aa (HP4.below HG1.out.1 HG1.out.2 HLO.out);have HK4:=aa (HP4.keep HK.out HZN.out.1 HZN.out.2);clear d;have d:w4.cell? ⟨z,9,none⟩=some (.slice p.qu.A p.qu.N p.qu.C):=HK4.cell 9;have d8:w4.cell? ⟨z,8,none⟩=some (.string p.si):=HK4.cell 8;go_wp2_with (with_reducible refine a8 126 1 _ rfl ?_)
   refine ak.go ?_;refine ar (by rfl) 126 1 _ rfl #[(0,.string p.si)] (by simp [Act.eval,Act.put]) 9 [.string p.si] (fun w=>rk p.si w) ?_;intro q5 w5 hq5 hb5 hbn;have HC5:=aa (HC4.later hbn);have HP5:=aa (HP4.then hbn);have HNB:=aa hb5;have HK5:=aa (HK4.later hbn);have HQ5:Hid (q5≠g∧q5≠mb):=by have:=HC4.lt;show _∧_;omega
   clear hq5 hb5 hbn d d8;have HBL5:=aa (HP5.below HG1.out.1 HG1.out.2 HLO.out);have HNM5:Hid (gb g mb w5 (some ⟨q5,0,none⟩) 1 [p.si]):=⟨rfl,fun s hs=>by simp at hs;subst hs;exact hsi,.inr ⟨q5,0,rfl,HQ5.out.1,HQ5.out.2,fun k s hs=>by
    cases k with
    | zero=>simp at hs;subst hs;exact HNB.cell 0
    | succ k=>simp at hs⟩⟩
   go_wp2_with fail
   refine (iB w5 lo g mb _ _ p.qu.A p.qu.N p.qu.C p.quL _ 1 1 [p.si] HC5.out (HPG.qu.below HBL5.out) (HLA.below h6 HBL5.out) h6 (Nat.le_trans HLO.out HBL5.size) (by have:=HSZ.out;omega) HNM5.out (by omega) (by have:=HSZ.out;omega)).mono ?_;rintro e w6 ⟨⟨rfl,hG⟩ | ⟨pn,ps,rfl,hpn⟩,hkp,hck⟩;rotate_left
   ·exact aA rfl ⟨.inr ⟨pn,ps,rfl,hpn⟩,(Kp.of HB.out).trans (HP5.trans hkp),hck.more (by have:=HSZ.out;omega)⟩
   have HS6:=aa hkp;have HGD6:=aa hG;have HP6:=aa (HP5.trans hkp);have HC6:=aa hck;clear hG hkp hck;have HBL6:=aa (HP6.below HG1.out.1 HG1.out.2 HLO.out);have HK6:=aa (HP6.keep HK.out HZN.out.1 HZN.out.2);have d:w6.cell? ⟨z,10,none⟩=some (.slice p.py.A p.py.N p.py.C):=HK6.cell 10;go_wp2_with fail
   refine (iB w6 lo g mb _ _ p.py.A p.py.N p.py.C p.pyL none 0 0 [] HC6.out (HPG.py.below HBL6.out) (HLA.below h6 HBL6.out) h6 (Nat.le_trans HLO.out HBL6.size) (by have:=HSZ.out;omega) (gb.nil _ _ _) (by omega) (by have:=HSZ.out;omega)).mono ?_;rintro e w7 ⟨⟨rfl,hG⟩ | ⟨pn,ps,rfl,hpn⟩,hkp,hck⟩;rotate_left
   ·exact aA rfl ⟨.inr ⟨pn,ps,rfl,hpn⟩,(Kp.of HB.out).trans (HP6.trans hkp),hck.more (by have:=HSZ.out;omega)⟩
   have HS7:=aa hkp;have HGD7:=aa hG;have HP7:=aa (HP6.trans hkp);have HC7:=aa hck;clear hG hkp hck;have HBL7:=aa (HP7.below HG1.out.1 HG1.out.2 HLO.out);have HK7:=aa (HP7.keep HK.out HZN.out.1 HZN.out.2);clear d;go_wp2_with fail
   refine bodyPost_end (results_none rfl _ _ _) rfl ?_;exact ⟨.inl ⟨rfl,HGD2.out,HGD3.out,HGD4.out,HGD6.out,HGD7.out⟩,(Kp.of HB.out).trans HP7.out,HC7.more (by have:=HSZ.out;omega)⟩
theorem gU {w w' w'' : World} {b:Nat} (h:Below w.heap.size w w') (hg:w'.grownBy w'' (some b)):w.grownBy w'' (some b):=
 ⟨hg.os.trans h.os,hg.tape.trans h.tape,hg.output.trans h.output,Nat.le_trans h.size hg.size,fun k hk hne=>(hg.block k (Nat.lt_of_lt_of_le hk h.size) hne).trans (h.block k hk)⟩
set_option maxRecDepth 20000 in
theorem pW (b:Nat) (w:World):CallsD Tryz.prog 101 #[.pointer (some ⟨b,0,none⟩)] .returning w fun e u' w'=>e=.returned (.tuple #[])∧u'=.returning∧w'=w:=by
 refine callsD_of_wpS Tryz.func101 rfl fun c₀ cs hu=>?_;apply wpS_seq;apply wpS_region;simp [wpOpsS,go_sem,recoverD,hu,Tryz.ntmps101,Exit.thenS];refine wpS_of_wp ?_;simp only [Array.replicate_succ,Array.replicate_zero,List.push_toArray,List.append_toArray,List.nil_append,List.cons_append,List.setIfInBounds_toArray,List.set_cons_zero,List.set_cons_succ];go_wp2_with fail
 cases c₀;simp_all [bodyPostS,results,Tryz.results101]
set_option maxRecDepth 20000 in
theorem ot (b:Nat) (w:World) (n:Int) (s:ByteArray) (n0:Int) (s0:ByteArray) (hb:Bk w b 110 [.int .i64 n0,.string s0]):CallsD Tryz.prog 101 #[.pointer (some ⟨b,0,none⟩)] (.panicking [{ v:=.iface 110 (.agg #[.int .i64 n,.string s]),recovered:=false }]) w fun e u' w'=>
  e=.returned (.tuple #[])∧u'=.panicking [{ v:=.iface 110 (.agg #[.int .i64 n,.string s]),recovered:=true }]∧Bk w' b 110 [.int .i64 n,.string s]∧w.grownBy w' (some b):=by
 refine callsD_of_wpS Tryz.func101 rfl fun c₀ cs hu=>?_;apply wpS_seq;apply wpS_region;simp [wpOpsS,go_sem,recoverD,hu,Tryz.ntmps101,Exit.thenS];refine wpS_of_wp ?_;simp only [Array.replicate_succ,Array.replicate_zero,List.push_toArray,List.append_toArray,List.nil_append,List.cons_append,List.setIfInBounds_toArray,List.set_cons_zero,List.set_cons_succ];have hta:∀w,(Instr.typeAssert (.iface 110 (.agg #[.int .i64 n,.string s])) 20 110 true).run Tryz.prog w=.ok (.tuple #[.agg #[.int .i64 n,.string s],.bool true]) w:=fun w=>by kernel_rfl
 go_wp2_with (with_reducible refine ah 110 _ _ rfl ?_)
 refine ak.go ?_;obtain ⟨g2,hg2⟩:∃q,w.heap.size=q:=⟨_,rfl⟩;rw [hg2];refine an 110 _ _ rfl g2 hg2 [.int .i64 n,.string s] rfl rfl rfl rfl (by kernel_rfl) (by intro v hv;simp at hv;rcases hv with rfl | rfl <;> rfl) ?_;intro w2 hk2 hb2;have HK2:=aa hk2;have HB2:=aa hb2;have HBK:=aa (hb.later hb2);clear hk2;go_wp2_with (first | (with_reducible refine aj rfl 110 _ rfl g2 rfl [.int .i64 n,.string s] 110 HK2.out _ Tryz.underlying110 rfl (by kernel_rfl) ?_) | (with_reducible refine ah 110 _ _ rfl ?_))
 refine ak.go ?_;refine ae rfl 110 _ _ rfl b 0 (.agg #[.int .i64 n,.string s]) [.int .i64 n,.string s] rfl rfl rfl 110 [] [.int .i64 n0,.string s0] [] (by simpa using HBK.out) rfl rfl (by kernel_rfl) (by intro v hv;simp at hv;rcases hv with rfl | rfl <;> rfl) ?_;intro w3 hp;go_wp2_with fail
 have hbk:Bk w3 b 110 [.int .i64 n,.string s]:=by have:=hp.bk;simpa using this
 exact ⟨rfl,_,rfl,_,results_none rfl _ _ _,rfl,rfl,hbk,gU hb2 hp.only⟩
end Go.Proofs.YtllbdpdnpaocnaaGreatDoor
