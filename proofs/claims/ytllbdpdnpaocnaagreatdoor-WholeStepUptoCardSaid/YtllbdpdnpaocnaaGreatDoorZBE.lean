/- Part of the proof of WholeStep. -/
import Derived.Test.YtllbdpdnpaocnaaGreatDoorZBD
namespace Go.Proofs.YtllbdpdnpaocnaaGreatDoor
set_option linter.unusedSimpArgs false
set_option linter.unusedVariables false
set_option linter.constructorNameAsVariable false
open Go.RowKit Go.Maps
theorem yG (w:World):(Instr.buildSlice 27 0 #[]).run Tryz.prog w=.ok (.slice (some ⟨w.heap.size,0,none⟩) 0 0) (w.alloc (.cells #[] 21)):=by kernel_rfl
set_option maxRecDepth 20000 in
theorem qm (w:World) (ad:Addr) (n C:Nat) (m:List Int) (h:Sl w w.heap.size 1 (some ad) n (m.map (.int .i32))) (hn:n≤4096):Calls Tryz.prog 135 #[.slice (some ad) n C] w fun e w'=>(∃v,e=.returned v∧w'.ownsRow w.heap.size 21 1 v n (m.map (.int .i32)))∧Below w.heap.size w w':=by
 have HS:=aa h;have hc:∀w,(Go.binOp BinOp.eql 27 (.slice (some ad) n C) (.slice none 0 0)).run Tryz.prog w=.ok (.bool false) w:=fun w=>by kernel_rfl
 clear h;go_enter Tryz.func135,Tryz.ntmps135;go_wp2_with (with_reducible refine a8 27 _ _ rfl ?_)
 refine ak.go ?_;refine ar rfl 27 0 _ rfl #[] ?_ 21 [] (fun w=>yG w) ?_
 ·simp [Act.eval,Act.put]
 intro q2 w2 hq2 hb2 hbn;have HS2:=aa (HS.later hbn);have HB2:=aa hbn;have HO2:Hid (w2.ownsRow w.heap.size 21 1 (.slice (some ⟨q2,0,none⟩) 0 0) 0 []):=hb2.own (base:=w.heap.size) (size:=1) (cap:=0) (n:=0) (by omega) (Nat.le_refl _) (by omega) rfl rfl;clear hq2 hb2 hbn;obtain ⟨i0,hj,hj0,hj1,hj2⟩:=info_parts Tryz.infoI32;have hbw:w.heap.size≤w2.heap.size:=HB2.size;have hone:∀x∈m.map (Value.int .i32),x.oneCell'=true:=fun x hx=>by obtain ⟨i,_,rfl⟩:=List.mem_map.1 hx;rfl
 go_wp2_with (at_builtin;refine bm _ rfl (.tmp 5) (.tmp 6) 27 rfl w.heap.size 21 i0 _ _ _ Tryz.underlying27 hj hj0 hj1 hj2 rfl (by decide) _ _ _ rfl HO2.out _ _ _ _ _ rfl HS2.out hone (by unfold maxLen;omega) (by omega) hbw ?_;intro v4 w4 hown hg hat;refine bA ?_)
 refine ak.go ?_;have HO4:Hid (w4.ownsRow w.heap.size 21 1 v4 n (m.map (.int .i32))):=by show World.ownsRow _ _ _ _ _ _ _;simpa using hown
 have HB4:=aa (aB HB2.out HO2.out hg (Nat.le_refl _) hbw);clear hown hg hat hj hj0 hj1 hj2 i0 hone;go_wp2_with fail
 go_ret;exact ⟨⟨_,rfl,HO4.out⟩,HB4.out⟩
theorem uw {w:World} {base n:Nat} {v:Value} {m:List Int} (h:w.ownsRow base 21 1 v n (m.map (.int .i32))) (h1:1≤n):∃q C ys,v=.slice (some ⟨q,0,none⟩) n C∧base≤q∧Bk w q 21 (m.map (.int .i32) ++ ys):=by
 obtain ⟨e1,e2,_⟩ | ⟨g,cap,ys,e,hb0,hb,_,_,hyl,hyt⟩:=dA h
 ·omega
 ·exact ⟨g,cap,ys.drop (n*1),e,hb0,by rw [←hyt,List.take_append_drop];exact hb⟩
set_option maxRecDepth 20000 in
theorem sc (w:World) (s:MsT) (A:Option Addr) (C:Nat) (hm:Sl w w.heap.size 1 A s.mem.length (s.mem.map (.int .i32))) (ok:eF s):Calls Tryz.prog 74 #[.agg (aF s.pc (.slice A s.mem.length C) s.halt).toArray] w fun e w'=>(∃q C' ys,e=.returned (.agg (aF s.pc (.slice (some ⟨q,0,none⟩) s.mem.length C') s.halt).toArray)∧w.heap.size≤q∧Bk w' q 21 (s.mem.map (.int .i32) ++ ys))∧Below w.heap.size w w':=by
 obtain ⟨ad,hA,_⟩:=hm.mem (by have:=ok.len.1;omega);obtain ⟨n,hn⟩:∃n,s.mem.length=n:=⟨_,rfl⟩;have hnl:1≤n∧n≤256:=by rw [←hn];exact ok.len
 obtain ⟨hn1,hn2⟩:=hnl;obtain ⟨pc,hpc⟩:∃x,s.pc=x:=⟨_,rfl⟩;obtain ⟨ha,hha⟩:∃x,s.halt=x:=⟨_,rfl⟩;obtain ⟨m,hmm⟩:∃x,s.mem=x:=⟨_,rfl⟩;rw [hA,hn] at hm;rw [hA,hn,hpc,hha];rw [hmm] at hm ⊢;clear hA hn hpc hha hmm ok;obtain ⟨z,hz⟩:∃z,w.heap.size=z:=⟨_,rfl⟩;obtain ⟨w1,hw1⟩:∃w1,(w.alloc (.cells (aF pc (.slice (some ad) n C) ha).toArray 38)).alloc (.cells #[.int .i64 0,.slice none 0 0,.int .i64 0] 38)=w1:=⟨_,rfl⟩;have hk:Bk w1 z 38 (aF pc (.slice (some ad) n C) ha):=hw1▸(Bk.at_ w _ _ hz rfl).alloc _;have hr:Bk w1 (z+1) 38 (aF 0 (.slice none 0 0) 0):=hw1▸Bk.at_ _ _ _ (by simp [hz]) rfl;have hb:Below w.heap.size w w1:=hw1▸(ai w _).alloc (by simp) _;have HW:=aa hw1;have HB:=aa hb;have HZ:=aa hz;have HK:=aa hk;have HR:=aa hr;have HM:=aa (hm.later hb);have c1:w1.cell? ⟨z,1,none⟩=some (.slice (some ad) n C):=hk.cell 1;clear hk hr hw1 hz hb hm;go_enter Tryz.func74,Tryz.ntmps74;go_upto_region 1 with fail
 rw [HW.out,HZ.out];go_wp2_with fail
 refine (qm w1 ad n C m HM.out (by omega)).mono ?_;rintro e w2 ⟨⟨v,rfl,hown⟩,hbn⟩;obtain ⟨q,C',ys,rfl,hq,hbq⟩:=uw hown hn1;have HBQ:=aa hbq;have HQ:=aa (Nat.le_trans HB.size hq);have HB2:=aa (ab HB.out hbn);have HK2:=aa (HK.later hbn);have HR2:=aa (HR.later hbn);have hzq:q≠z∧q≠z+1:=by have:=HR.lt;omega
 have HZQ:=aa hzq;clear hown hbq hq hbn c1 hzq;go_wp2_with (with_reducible refine ah 27 _ _ rfl ?_)
 refine ak.go ?_;refine ae rfl 27 _ _ rfl z 1 (.slice (some ⟨q,0,none⟩) n C') [.slice (some ⟨q,0,none⟩) n C'] rfl rfl rfl 38 [.int .i64 pc] [.slice (some ad) n C] [.int .i64 ha] (by simpa [aF] using HK2.out) rfl rfl (by kernel_rfl) (by intro v hv;simp at hv;subst hv;rfl) ?_;intro w3 hp;have HK3:Hid (Bk w3 z 38 (aF pc (.slice (some ⟨q,0,none⟩) n C') ha)):=by show Bk _ _ _ _;have:=hp.bk;simpa [aF] using this
 have HB3:=aa (ag HB2.out hp.only HB2.size (by have:=HZ.out;omega));have HBQ3:=aa (HBQ.grown hp.only (fun e=>by injection e with e;exact HZQ.out.1 e));have HR3:=aa (HR2.grown hp.only (fun e=>by injection e with e;omega));clear hp;go_wp2_with (first | (with_reducible refine aj rfl 38 _ rfl z rfl (aF pc (.slice (some ⟨q,0,none⟩) n C') ha) 38 HK3.out _ Tryz.underlying38 rfl (aN _ _ _) ?_) | (with_reducible refine ah 38 _ _ rfl ?_))
 refine ak.go ?_;refine ae rfl 38 _ _ rfl (z+1) 0 (.agg (aF pc (.slice (some ⟨q,0,none⟩) n C') ha).toArray) (aF pc (.slice (some ⟨q,0,none⟩) n C') ha) rfl rfl rfl 38 [] (aF 0 (.slice none 0 0) 0) [] (by simpa using HR3.out) rfl rfl (aN _ _ _) (dq _ _ _ _ _) ?_;intro w4 hp;have HR4:Hid (Bk w4 (z+1) 38 (aF pc (.slice (some ⟨q,0,none⟩) n C') ha)):=by show Bk _ _ _ _;have:=hp.bk;simpa using this
 have HB4:=aa (ag HB3.out hp.only HB3.size (by have:=HZ.out;omega));have HBQ4:=aa (HBQ3.grown hp.only (fun e=>by injection e with e;exact HZQ.out.2 e));clear hp;go_wp2_with fail
 refine bodyPost_ret (bH rfl _ _ (z+1) 38 _ _ rfl HR4.out Tryz.underlying38 rfl (aN _ _ _)) rfl ?_;exact ⟨⟨q,C',ys,rfl,HQ.out,HBQ4.out⟩,HB4.out⟩
set_option maxRecDepth 20000 in
theorem jE (w:World) (s:MsT) (A:Option Addr) (C:Nat) (ok:eF s):Calls Tryz.prog 75 #[.agg (aF s.pc (.slice A s.mem.length C) s.halt).toArray] w fun e w'=>e=.returned (.bool true)∧Below w.heap.size w w':=by
 obtain ⟨n,hn⟩:∃n,s.mem.length=n:=⟨_,rfl⟩;obtain ⟨pc,hpc⟩:∃x,s.pc=x:=⟨_,rfl⟩;obtain ⟨ha,hha⟩:∃x,s.halt=x:=⟨_,rfl⟩;obtain ⟨⟨h1,h2⟩,⟨h3,h4⟩,⟨h5,h6⟩,_⟩:=ok;rw [hn] at h1 h2;rw [hpc] at h3 h4;rw [hha] at h5 h6;rw [hn,hpc,hha];clear hn hpc hha;have h1' : (1:Int)≤n:=by omega
 have h2' : (n:Int)≤256:=by omega
 obtain ⟨z,hz⟩:∃z,w.heap.size=z:=⟨_,rfl⟩;obtain ⟨w1,hw1⟩:∃w1,w.alloc (.cells (aF pc (.slice A n C) ha).toArray 38)=w1:=⟨_,rfl⟩;have hk:Bk w1 z 38 (aF pc (.slice A n C) ha):=hw1▸Bk.at_ w _ _ hz rfl;have hb:Below w.heap.size w w1:=hw1▸ai w _;have HW:=aa hw1;have HB:=aa hb;have HZ:=aa hz;have c0:w1.cell? ⟨z,0,none⟩=some (.int .i64 pc):=hk.cell 0;have c1:w1.cell? ⟨z,1,none⟩=some (.slice A n C):=hk.cell 1;have c2:w1.cell? ⟨z,2,none⟩=some (.int .i64 ha):=hk.cell 2;clear hk hw1 hz hb;go_enter Tryz.func75,Tryz.ntmps75;go_upto_region 1 with fail
 rw [HW.out,HZ.out];go_wp2_with fail
 go_ret;exact ⟨rfl,HB.out⟩
def AD (base:Nat) (e:Ending) (w:World):Prop:=∃(s:MsT) (q C:Nat) (zs:List Value),e=.returned (.tuple #[.agg (aF s.pc (.slice (some ⟨q,0,none⟩) s.mem.length C) s.halt).toArray,.int .i64 0])∧base≤q∧Bk w q 21 (s.mem.map (.int .i32) ++ zs)∧eF s∧s.halt=0
theorem lR (l:List Int):∀v∈l.map (Value.int .i32),v.oneCell'=true:=by intro v hv;obtain ⟨x,_,rfl⟩:=List.mem_map.1 hv;rfl
theorem ni (m n:Nat):(zer (m+n)).map (Value.int .i32)=(zer m).map (.int .i32) ++ (zer n).map (.int .i32):=by simp [zer]
theorem vC (m:Nat):((zer m).map (Value.int .i32)).length=m:=by simp [zer]
theorem vD {w:World} {base n:Nat} {v:Value} {m:List Int} (h:w.ownsRow base 21 1 v n (m.map (.int .i32))) (h1:1≤n):∃q C ys,v=.slice (some ⟨q,0,none⟩) n C∧base≤q∧Bk w q 21 (m.map (.int .i32) ++ ys)∧n≤C:=by
 obtain ⟨e1,e2,_⟩ | ⟨g,cap,ys,e,hb0,hb,hc,_,hyl,hyt⟩:=dA h
 ·omega
 ·exact ⟨g,cap,ys.drop (n*1),e,hb0,by rw [←hyt,List.take_append_drop];exact hb,hc⟩
set_option maxRecDepth 20000 in
set_option maxHeartbeats 4000000 in
theorem rc (w:World) (gc:Nat) (c:CdT) (k m:Nat) (hk:k≤4) (A:Option Addr) (N C:Nat) (vs:List Int) (B:Option Addr) (M D:Nat) (ys:List Int) (ps:List VaT) (fL:List Int) (hbk:Bk w gc 87 (cdC c)) (hps:el w w.heap.size c.P.A c.P.N ps) (hvs:Sl w w.heap.size 1 A N (vs.map (.int .i32))) (has:Sl w w.heap.size 1 B M (ys.map (.int .i32))) (hfs:Sl w w.heap.size 1 c.F.A c.F.N (fL.map (.int .i32))) (hm:c.bh=m) (hm64:m≤64) (hF:c.F.N=m) (hN:N=if k=0 then 0 else m) (hM:M=gC c.P.N k) (hPN:c.P.N≤4) (hr:k=2→∀(i:Nat) (x:VaT) (y:Int),ps[i]?=some x→ys[i]?=some y→x.lo≤y∧y≤x.hi) (h32:∀y∈ys,-2147483648≤y∧y≤2147483647) (v32:∀y∈vs,-2147483648≤y∧y≤2147483647) (f32:∀y∈fL,-2147483648≤y∧y≤2147483647):Calls Tryz.prog 8 #[.pointer (some ⟨gc,0,none⟩),.int .i64 k,.slice A N C,.slice B M D] w fun e w'=>AD w.heap.size e w'∧Below w.heap.size w w':=by
 obtain ⟨z,hz⟩:∃z,w.heap.size=z:=⟨_,rfl⟩;obtain ⟨w1,hw1⟩:∃w1,w.alloc (.cells #[.int .i64 0,.slice none 0 0,.int .i64 0] 38)=w1:=⟨_,rfl⟩;have hzk:Bk w1 z 38 (aF 0 (.slice none 0 0) 0):=hw1▸Bk.at_ w _ _ hz rfl;have hb:Below w.heap.size w w1:=hw1▸ai w _;have hM4:M≤4:=by
  rw [hM];unfold gC;by_cases h2:k=2
  ·rw [if_pos h2];exact hPN
  ·rw [if_neg h2];split <;> omega
 have HFI:=aa (vB w1 gc c k hk A N C B M D ys ps (hbk.later hb) (hps.later hb) (has.later hb) (by rw [hN,hm];split <;> simp) hM (by omega) hr h32);have HW:=aa hw1;have HZ:=aa hz;have HB:=aa hb;have HZK:=aa hzk;have HBK:=aa (hbk.later hb);have HVS:=aa (hvs.below hb);have HAS:=aa (has.below hb);have HFS:=aa (hfs.below hb);have H32:=aa h32;have HV32:=aa v32;have HF32:=aa f32;have HM:=aa hm;have HFN:=aa hF;have HNN:=aa hN;have hgl:gc < w.heap.size:=hbk.lt;clear hw1 hz hzk hb hbk hps hvs has hfs hr h32 v32 f32 hm hF hN hM hPN;go_enter Tryz.func8,Tryz.ntmps8;go_upto_region 1 with fail
 rw [HW.out,HZ.out];go_wp2_with fail
 refine HFI.mono ?_;rintro e w2 ⟨rfl,hbn⟩;have HB2:=aa hbn;clear hbn HFI;have c0:w2.cell? ⟨gc,0,none⟩=some (.int .i64 c.bh):=(HBK.later HB2.out).cell 0;go_wp2_with fail
 refine (mL w2 gc c.bh c0 (by rw [HM.out];omega)).mono ?_;rintro e w' ⟨rfl,rfl⟩;clear c0;obtain ⟨n,hn⟩:∃n:Nat,c.bh+49=n:=⟨m+49,by rw [HM.out];omega⟩;have HNM:Hid (n=m+49):=by show _=_;rw [HM.out] at hn;omega
 rw [hn];clear hn;go_wp2_with fail
 refine (wB w2 n (by have:=HNM.out;omega) (by have:=HNM.out;omega)).mono ?_;rintro e w3 ⟨⟨A3,C3,rfl,hown⟩,hbn⟩;obtain ⟨q,C4,zs,hv,hbq,hq,hcap⟩:=vD hown (by have:=HNM.out;omega);injection hv with e1 e2 e3
 subst e1 e3;have HCAP:=aa hcap;have HB3:=aa (ab HB2.out hbn);have HQ3:=aa hq;have HBQ:Hid (w.heap.size≤q∧z < q):=by have:=HB2.size;have:=HB.size;have:=HZK.lt;show _∧_;omega
 clear hown hbn hbq hq e2 hcap;go_wp2_with (with_reducible refine ah 38 _ _ rfl ?_)
 refine ak.go ?_;obtain ⟨g11,hg11⟩:∃x,w3.heap.size=x:=⟨_,rfl⟩;rw [hg11];refine an 38 _ _ rfl g11 hg11 (aF 0 (.slice (some ⟨q,0,none⟩) n C3) 0) rfl rfl rfl rfl (aN _ _ _) (dq _ _ _ _ _) ?_;intro w4 hk4 hbn;have HS4:=aa hk4;have HB4:=aa (ab HB3.out hbn);have HQ4:=aa (HQ3.later hbn);have hgq:q < g11:=by have:=HQ3.lt;omega
 clear hk4 hbn hg11;go_upto_if 33 with fail
 go_cut [2] (fun p2 wx=>∃(A2:Option Addr) (C2:Nat) (us:List Int),p2=.slice A2 m C2∧Hid (Sl w1 w.heap.size 1 A2 m (us.map (.int .i32)))∧Hid (∀y∈us,-2147483648≤y∧y≤2147483647)∧wx=w4)
 case first=>
  by_cases h0:k=0
  ·subst h0;have c2:w4.cell? ⟨gc,2,none⟩=some (.slice c.F.A m c.F.C):=by rw [←HFN.out];exact (HBK.later HB4.out).cell 2
   go_wp2_with fail
   go_meet;exact ⟨c.F.A,c.F.C,fL,rfl,(by show Sl _ _ _ _ _ _;rw [←HFN.out];exact HFS.out),HF32.out,rfl⟩
  ·obtain rfl:N=m:=by rw [HNN.out,if_neg h0]
   have h0' : ((k:Int) == 0)=false:=by simp;omega
   have h0'' : ¬(k:Int)=0:=by omega
   go_wp2_with fail
   go_meet;exact ⟨A,C,vs,rfl,HVS.out,HV32.out,rfl⟩
 obtain ⟨A2,C2,us,rfl,HUS,HU32,rfl⟩:=hcut;refine ‹∀(a:Act) (w:World),Code.wp _ _ _ a w→_› _ _ ?_;obtain ⟨w5,rfl⟩:∃x,x=wc:=⟨_,rfl⟩;obtain rfl:n=m+49:=HNM.out;clear HNM;have c1:w5.cell? ⟨g11,1,none⟩=some (.slice (some ⟨q,0,none⟩) (m+49:Nat) C3):=HS4.cell 1;have hul:=HUS.length;have hq5:Bk w5 q 21 ([] ++ ((zer m).map (.int .i32) ++ ((zer 49).map (.int .i32) ++ zs))):=by have:=HQ4.out;rw [ni,List.append_assoc] at this;exact this
 have HL15:Hid (Below w.heap.size w1 w5):=HB4.mono HB.size;go_wp2_with (refine om rfl (.tmp 39) (.tmp 40) 27 27 rfl 21 Tryz.underlying27 (by kernel_rfl) q 0 (m+49) C3 m C2 w.heap.size A2 rfl rfl 21 [] ((zer m).map (.int .i32)) ((zer 49).map (.int .i32) ++ zs) (us.map (.int .i32)) hq5 rfl (by rw [vC,List.length_map,hul]) (HUS.below HL15.out) (by omega) (lR us) ?_;intro w6 hp;refine bA ?_)
 refine ak.go ?_;have HQ6:Hid (Bk w6 q 21 ([] ++ (us.map (.int .i32) ++ ((zer 49).map (.int .i32) ++ zs)))):=hp.bk;have HS6:=aa (HS4.grown hp.only (fun e=>by injection e with e;omega));have HZ6:=aa ((HZK.later HB4.out).grown hp.only (fun e=>by have:=HBQ.out;injection e with e;omega));have HL16:=aa (ag HL15.out hp.only (Nat.le_trans HB.size HB4.size) HBQ.out.1);have HB6:=aa (ag (ab HB.out HB4.out) hp.only (ab HB.out HB4.out).size HBQ.out.1);clear hp hq5 c1;go_wp2_with fail
 have HBK6:=aa (HBK.below HL16.out hgl);refine wp_region_held_drew (S:=fun wk=>wk.cell? ⟨g11,1,none⟩=some (.slice (some ⟨q,0,none⟩) (m+49:Nat) C3)∧wk.cell? ⟨gc,0,none⟩=some (.int .i64 m)) (by kernel_rfl) ⟨(HS6.later (ac w6 _ 1)).cell 1,by rw [←HM.out];exact (HBK6.later (ac w6 _ 1)).cell 0⟩ (fun hHeld=>?_);obtain ⟨w7,hw7⟩:∃wa,w6.drew=wa:=⟨_,rfl⟩;have hb7:Below w6.heap.size w6 w7:=hw7▸ac w6 w6.heap.size 1;rw [hw7] at hHeld ⊢;have HB7:=aa hb7;clear hw7 hb7;have s1:IntKind.i64.wrap (m:Int)=m:=by rw [IntKind.wrap_i64];omega
 have s2:(0:Int)≤m∧(m:Int)≤m+49:=by omega
 have s4:¬C3=m:=by have:=HCAP.out;omega
 refine tk 0 ?_;refine tk 2 ?_;refine tk 8 ?_;refine tkv 1 rfl (fun w hSw=>by have hcell:=hSw.1;clear hSw;go_simp;try with_reducible rfl) ?_;refine tk 3 ?_;refine tk 4 ?_;refine tkv 5 rfl (fun w hSw=>by have hcell:=hSw.2;clear hSw;go_simp;try with_reducible rfl) ?_;refine tk 6 ?_;refine tk 7 ?_;clear s1 s2 s4;have hyl:=HAS.length;have hq7:Bk w7 q 21 ((us.map (.int .i32)) ++ ((zer M).map (.int .i32) ++ ((zer (49 - M)).map (.int .i32) ++ zs))):=by
  have:=HQ6.later HB7.out;have e:(zer 49).map (Value.int .i32)=(zer M).map (.int .i32) ++ (zer (49 - M)).map (.int .i32):=by rw [←ni,show M+(49 - M)=49 by omega]
  rw [e,List.append_assoc] at this;exact this
 have HL17:Hid (Below w.heap.size w1 w7):=HL16.trans (HB7.mono (by have:=HB6.size;omega));refine rdw 9 (fun Kx hK=>?_);refine pP (.tmp 49) (.tmp 50) 27 27 rfl 21 Tryz.underlying27 (by kernel_rfl) q m 49 (C3 - m) M D w.heap.size B rfl rfl 21 (us.map (.int .i32)) ((zer M).map (.int .i32)) ((zer (49 - M)).map (.int .i32) ++ zs) (ys.map (.int .i32)) hq7 (by rw [List.length_map];omega) (by rw [vC,List.length_map];omega) (HAS.below HL17.out) (by omega) (lR ys) (fun w8 hp=>?_);have HQ8:Hid (Bk w8 q 21 (us.map (.int .i32) ++ (ys.map (.int .i32) ++ ((zer (49 - M)).map (.int .i32) ++ zs)))):=hp.bk;have HS8:=aa ((HS6.later HB7.out).grown hp.only (fun e=>by injection e with e;omega));have HZ8:=aa ((HZ6.later HB7.out).grown hp.only (fun e=>by have:=HBQ.out;injection e with e;omega));have HB8:=aa (ag (ab HB6.out HB7.out) hp.only (ab HB6.out HB7.out).size HBQ.out.1);have HL18:=aa (ag HL17.out hp.only (Nat.le_trans HB6.size HB7.size) HBQ.out.1);have HBK8:=aa (HBK.below HL18.out hgl);clear hp hq7;refine hK.out _ _ ⟨HS8.cell 1,by rw [←HM.out];exact HBK8.cell 0⟩ (fun hHeld=>?_);clear hK Kx hHeld;simp only [Act.put,q1,q2,q3,q4,q5,q6];refine wpAnyH_done rfl ?_ _;go_wp2_with (first | (with_reducible refine aj rfl 38 _ rfl g11 rfl (aF 0 (.slice (some ⟨q,0,none⟩) (m+49:Nat) C3) 0) 38 HS8.out _ Tryz.underlying38 rfl (aN _ _ _) ?_) | (with_reducible refine ah 38 _ _ rfl ?_))
 refine ak.go ?_;refine ae rfl 38 _ _ rfl z 0 (.agg (aF 0 (.slice (some ⟨q,0,none⟩) (m+49) C3) 0).toArray) (aF 0 (.slice (some ⟨q,0,none⟩) (m+49) C3) 0) rfl rfl rfl 38 [] (aF 0 (.slice none 0 0) 0) [] (by simpa using HZ8.out) rfl rfl (aN _ _ _) (dq _ _ _ _ _) ?_;intro w9 hp;have HZ9:Hid (Bk w9 z 38 (aF 0 (.slice (some ⟨q,0,none⟩) (m+49) C3) 0)):=by show Bk _ _ _ _;have:=hp.bk;simpa using this
 have HQ9:=aa (HQ8.grown hp.only (fun e=>by have:=HBQ.out;injection e with e;omega));have HB9:=aa (ag HB8.out hp.only HB8.size (by have:=HZ.out;omega));clear hp;go_wp2_with fail
 refine bodyPost_ret (bp rfl _ _ z 38 (aF 0 (.slice (some ⟨q,0,none⟩) (m+49) C3) 0) _ rfl HZ9.out Tryz.underlying38 rfl (aN _ _ _)) rfl ?_;have hlen:(us ++ (ys ++ zer (49 - M))).length=m+49:=by
  have h1:us.length=m:=by omega
  have h2:ys.length=M:=by omega
  have h3:(zer (49 - M)).length=49 - M:=by simp [zer]
  rw [List.length_append,List.length_append,h1,h2,h3];omega
 refine ⟨⟨⟨0,us ++ (ys ++ zer (49 - M)),0⟩,q,C3,zs,?_,HBQ.out.1,?_,⟨?_,?_,?_,?_⟩,rfl⟩,HB9.out⟩
 ·show _=Ending.returned (.tuple #[.agg (aF 0 (.slice (some ⟨q,0,none⟩) (us ++ (ys ++ zer (49 - M))).length C3) 0).toArray,.int .i64 0]);rw [hlen];rfl
 ·show Bk _ _ _ ((us ++ (ys ++ zer (49 - M))).map (.int .i32) ++ zs);rw [List.map_append,List.map_append,List.append_assoc,List.append_assoc];exact HQ9.out
 ·show 1≤(us ++ (ys ++ zer (49 - M))).length∧(us ++ (ys ++ zer (49 - M))).length≤256;rw [hlen];omega
 ·exact ⟨Int.le_refl 0,by show (0:Int)≤2048;decide⟩
 ·exact ⟨Int.le_refl 0,by show (0:Int)≤2;decide⟩
 ·intro x hx;rcases List.mem_append.1 hx with hx | hx
  ·exact HU32.out x hx
  ·rcases List.mem_append.1 hx with hx | hx
   ·exact H32.out x hx
   ·rw [List.eq_of_mem_replicate hx];exact ⟨by decide,by decide⟩
def zO (m k n:Nat) (ps:List VaT) (e:Ending) (w:World):Prop:=∃(A:Option Addr) (C:Nat) (us:List Int) (B:Option Addr) (D:Nat) (ys:List Int),
 e=.returned (.tuple #[.slice A (if k=0 then 0 else m) C,.slice B (gC n k) D])∧Sl w w.heap.size 1 A (if k=0 then 0 else m) (us.map (.int .i32))∧Sl w w.heap.size 1 B (gC n k) (ys.map (.int .i32))∧
 (∀y∈us,-2147483648≤y∧y≤2147483647)∧(∀y∈ys,-2147483648≤y∧y≤2147483647)∧(k=2→∀(i:Nat) (x:VaT) (y:Int),ps[i]?=some x→ys[i]?=some y→x.lo≤y∧y≤x.hi)
theorem pQ (x:Int) (w:World):(Instr.buildSlice 27 1 #[(0,.int .i32 x)]).run Tryz.prog w=.ok (.slice (some ⟨w.heap.size,0,none⟩) 1 1) (w.alloc (.cells #[.int .i32 x] 21)):=by kernel_rfl
theorem nj {us:List Int} {y:Int} (h:∀u∈us,-2147483648≤u∧u≤2147483647) (hy : -2147483648≤y∧y≤2147483647):∀u∈us ++ [y],-2147483648≤u∧u≤2147483647:=by
 intro u hu;rcases List.mem_append.1 hu with hu | hu
 ·exact h u hu
 ·rw [List.mem_singleton.1 hu];exact hy
theorem xZ {k j:Nat} {ps:List VaT} {zs:List Int} {y:Int} (hj:zs.length=j) (h:k=2→∀(i:Nat) (x:VaT) (y:Int),ps[i]?=some x→zs[i]?=some y→x.lo≤y∧y≤x.hi) (hx:k=2→∀x,ps[j]?=some x→x.lo≤y∧y≤x.hi):k=2→∀(i:Nat) (x:VaT) (y' : Int),ps[i]?=some x→(zs ++ [y])[i]?=some y'→x.lo≤y'∧y'≤x.hi:=by
 intro h2 i x y' hp hq;by_cases hi:i < zs.length
 ·rw [List.getElem?_append_left hi] at hq;exact h h2 i x y' hp hq
 ·by_cases he:i=j
  ·rw [he] at hp hq;rw [List.getElem?_append_right (by omega),hj,Nat.sub_self] at hq;injection hq with e;subst e;exact hx h2 x hp
  ·rw [List.getElem?_eq_none (by rw [List.length_append];simp;omega)] at hq;cases hq
set_option maxRecDepth 20000 in
set_option maxHeartbeats 4000000 in
theorem ya (w:World) (p:PgT) (h:cI w w.heap.size p) (k m:Nat) (hk:k≤4) (hm:bI p.vrL=m) (hm64:m≤64) (hg:∀v∈p.paL,jl v=true) (hpn:p.pa.N≤4) (A:Option Addr) (N C:Nat) (vs:List Int) (B:Option Addr) (M D:Nat) (ys:List Int) (hvs:Sl w w.heap.size 1 A N (vs.map (.int .i32))) (has:Sl w w.heap.size 1 B M (ys.map (.int .i32))) (h32:∀y∈ys,-2147483648≤y∧y≤2147483647) (v32:∀y∈vs,-2147483648≤y∧y≤2147483647):Calls Tryz.prog 7 #[.agg (pgC p).toArray,.int .i64 k,.slice A N C,.slice B M D] w fun e w'=>zO m k p.pa.N p.paL e w'∧Below w.heap.size w w':=by
 obtain ⟨z,hz⟩:∃z,w.heap.size=z:=⟨_,rfl⟩;obtain ⟨w1,hw1⟩:∃w1,w.alloc (.cells (pgC p).toArray 26)=w1:=⟨_,rfl⟩;have hzk:Bk w1 z 26 (pgC p):=hw1▸Bk.at_ w _ _ hz rfl;have hb:Below w.heap.size w w1:=hw1▸ai w _;have hlen:=h.pa.len;have HW:=aa hw1;have HZ:=aa hz;have HB:=aa hb;have HZK:=aa hzk;have HPG:=aa (h.later hb);have HVS:=aa (hvs.below hb);have HAS:=aa (has.below hb);have H32:=aa h32;have HV32:=aa v32;have HM:=aa hm;have HG:=aa hg;have HLN:=aa hlen;clear hw1 hz hzk hb hvs has h32 v32 hm hg h hlen;go_enter Tryz.func7,Tryz.ntmps7;go_upto_region 1 with fail
 rw [HW.out,HZ.out];go_upto_block 0 with fail
 go_cut [10] from 12 to 93 (fun p10 wx=>∃(A1:Option Addr) (C1:Nat) (us:List Int),p10=.slice A1 (if k=0 then 0 else m) C1∧Hid (Sl wx wx.heap.size 1 A1 (if k=0 then 0 else m) (us.map (.int .i32)))∧Hid (∀y∈us,-2147483648≤y∧y≤2147483647)∧Hid (Below w1.heap.size w1 wx))
 case first=>
  go_wp2_with fail
  go_loopw [10,12,13] (fun v i _ wr=>∃(j:Nat) (us:List Int),i=.int .i64 j∧Hid (us.length=j∧j≤(if k=0 then 0 else m))∧Hid (∀y∈us,-2147483648≤y∧y≤2147483647)∧Hid (wr.ownsRow w1.heap.size 21 1 v j (us.map (.int .i32)))∧Hid (Below w1.heap.size w1 wr)) (fun _ i _ _=>m - (intOf i).toNat)
  case atStart=>exact ⟨0,[],rfl,⟨rfl,Nat.zero_le _⟩,(fun _ h=>by simp at h),World.ownsRow_nil _ _ _ _,Below.refl _ _⟩
  case round=>
   obtain ⟨j,us,rfl,hj,hu,hO,hB⟩:=hrel;have HZ2:=aa (HZK.later hB.out);have hc:=rO wr p (HPG.later hB.out);rw [HM.out] at hc;have HC:=aa hc;clear hc;have hfin:∀wx v,Below wr.heap.size wr wx→j=(if k=0 then 0 else m)→wr.ownsRow w1.heap.size 21 1 v j (us.map (.int .i32))→∃(A1:Option Addr) (C1:Nat) (us:List Int),v=.slice A1 (if k=0 then 0 else m) C1∧Hid (Sl wx wx.heap.size 1 A1 (if k=0 then 0 else m) (us.map (.int .i32)))∧Hid (∀y∈us,-2147483648≤y∧y≤2147483647)∧Hid (Below w1.heap.size w1 wx):=by intro wx v hb he ho;obtain ⟨A1,C1,rfl⟩:=aI ho;rw [←he];exact ⟨A1,C1,us,rfl,(Sl.of_own (az ho hb)),hu.out,ab hB.out hb⟩
   have HFIN:=aa hfin;clear hfin;by_cases hlt:j < m
   ·have hjm:(j:Int) < m:=by omega
    by_cases h0:k=0
    ·subst h0;have hj0:j=0:=by have:=hj.out.2;simpa using this
     have HJ0:=aa hj0;clear hj0;go_wp2_with (first | (with_reducible refine aj rfl 26 _ rfl z rfl (pgC p) 26 HZ2.out _ Tryz.underlying26 rfl (ct p) ?_) | (refine HC.mono ?_;rintro e w2 ⟨rfl,hbn⟩))
     go_meet;exact HFIN.out _ _ hbn (by simpa using HJ0.out) hO.out
    ·have h0' : ¬(k:Int)=0:=by omega
     go_upto_if 32 with (first | (with_reducible refine aj rfl 26 _ rfl z rfl (pgC p) 26 HZ2.out _ Tryz.underlying26 rfl (ct p) ?_) | (refine HC.mono ?_;rintro e w2 ⟨rfl,hbn⟩))
     have HB2:=aa hbn;have HO2:=aa (az hO.out hbn);clear hbn;go_cut [13] (fun p13 wx=>∃y:Int,p13=.int .i32 y∧(-2147483648≤y∧y≤2147483647)∧wx=w2)
     case first=>
      by_cases hjN:j < N
      ·obtain ⟨ad,y,hBd,hb2,hy,hcc⟩:=(HVS.below (ab hB.out HB2.out |> fun h=>h.mono HB.size)).atg hjN;have hy32:=HV32.out y (List.mem_of_getElem? hy);have hjN' : (j:Int) < N:=by omega
       subst hBd;go_wp2_with fail
       go_meet;exact ⟨y,rfl,hy32,rfl⟩
      ·have hjN' : ¬(j:Int) < N:=by omega
       go_wp2_with fail
       go_meet;exact ⟨0,rfl,by decide,rfl⟩
     obtain ⟨y,rfl,hy,rfl⟩:=hcut;refine ‹∀(a:Act) (w:World),Code.wp _ _ _ a w→_› _ _ ?_;obtain ⟨w3,rfl⟩:∃x,x=wc:=⟨_,rfl⟩;have HY:=aa hy;go_wp2_with (with_reducible refine a8 27 _ _ rfl ?_)
     refine ak.go ?_;refine ar (by rfl) 27 1 _ rfl #[(0,.int .i32 y)] (by simp [Act.eval,Act.put]) 21 [.int .i32 y] (fun w=>pQ _ w) ?_;intro q9 w9 hq9 hb9 hbn;have HN9:=aa hb9;have HO9:=aa (az HO2.out hbn);have HB9:=aa (ab (ab hB.out HB2.out) hbn);clear hq9 hb9 hbn;obtain ⟨i0,hj0,hj1,hj2,hj3⟩:=info_parts Tryz.infoI32;have hbw:w1.heap.size≤w9.heap.size:=HB9.size;go_wp2_with (at_builtin;refine bm _ rfl (.tmp 37) (.tmp 39) 27 rfl w1.heap.size 21 i0 _ _ _ Tryz.underlying27 hj0 hj1 hj2 hj3 rfl (by decide) _ _ _ rfl HO9.out _ _ _ _ _ rfl (HN9.sl (n:=1) rfl (by omega) (fun _ _ h=>h)) (by intro u hu;simp at hu;subst hu;rfl) (by unfold maxLen;omega) (by omega) hbw ?_;intro v10 w10 hown hg hat;refine bA ?_)
     refine ak.go ?_;have HO10:Hid (w10.ownsRow w1.heap.size 21 1 v10 (j+1) ((us ++ [y]).map (.int .i32))):=by show World.ownsRow _ _ _ _ _ _ _;rw [List.map_append];exact hown
     have HB10:=aa (aB HB9.out HO9.out hg (Nat.le_refl _) hbw);clear hown hg hat hj0 hj1 hj2 hj3 i0 hbw;have HU10:=aa (nj hu.out HY.out);go_wp2_with fail
     go_roundw
     case rel=>exact ⟨j+1,us ++ [y],by go_num,⟨by rw [List.length_append,hj.out.1];rfl,by rw [if_neg h0];omega⟩,HU10.out,HO10.out,HB10.out⟩
     case measure=>simp [intOf];omega
   ·have hjm:¬(j:Int) < m:=by omega
    go_wp2_with (first | (with_reducible refine aj rfl 26 _ rfl z rfl (pgC p) 26 HZ2.out _ Tryz.underlying26 rfl (ct p) ?_) | (refine HC.mono ?_;rintro e w2 ⟨rfl,hbn⟩))
    go_meet;refine HFIN.out _ _ hbn ?_ hO.out;have:=hj.out.2;by_cases h0:k=0
    ·rw [if_pos h0] at this ⊢;omega
    ·rw [if_neg h0] at this ⊢;omega
 obtain ⟨A1,C1,us,rfl,HUS,HUR,HB1⟩:=hcut;refine ‹∀(a:Act) (w:World),Code.wp _ _ _ a w→_› _ _ ?_;obtain ⟨w2,rfl⟩:∃x,x=wc:=⟨_,rfl⟩;obtain ⟨n1,hn1⟩:∃n1,(if k=0 then 0 else m)=n1:=⟨_,rfl⟩;have HN1:=aa hn1;rw [hn1] at HUS ⊢;clear hn1;go_upto_if 42 with fail
 have c6:w2.cell? ⟨z,6,none⟩=some (.slice p.pa.A p.pa.N p.pa.C):=(HZK.later HB1.out).cell 6;go_cut [14] (fun p14 wx=>p14=.int .i64 (if k=2 then p.pa.N else 0:Nat)∧wx=w2)
 case first=>
  by_cases h2:k=2
  ·subst h2;go_wp2_with fail
   go_meet;exact ⟨rfl,rfl⟩
  ·have h2' : ¬(k:Int)=2:=by omega
   go_wp2_with fail
   go_meet;exact ⟨by rw [if_neg h2];rfl,rfl⟩
 obtain ⟨rfl,rfl⟩:=hcut;refine ‹∀(a:Act) (w:World),Code.wp _ _ _ a w→_› _ _ ?_;obtain ⟨n2,hn2⟩:∃n2,(if k=2 then p.pa.N else 0)=n2:=⟨_,rfl⟩;have HN2:=aa hn2;rw [hn2];clear hn2 c6;obtain ⟨w3,rfl⟩:∃x,x=wc:=⟨_,rfl⟩;go_upto_if 47 with fail
 go_cut [14] (fun p14 wx=>p14=.int .i64 (gC p.pa.N k:Nat)∧wx=w3)
 case first=>
  by_cases h3:k=3
  ·subst h3;go_wp2_with fail
   go_meet;exact ⟨rfl,rfl⟩
  ·have h3' : ¬(k:Int)=3:=by omega
   go_wp2_with fail
   go_meet;exact ⟨by rw [←HN2.out,gC,if_neg h3],rfl⟩
 obtain ⟨rfl,rfl⟩:=hcut;refine ‹∀(a:Act) (w:World),Code.wp _ _ _ a w→_› _ _ ?_;obtain ⟨M2,hM2⟩:∃M2,gC p.pa.N k=M2:=⟨_,rfl⟩;have hM4:M2≤4:=by
  rw [←hM2,gC];by_cases h2:k=2
  ·rw [if_pos h2];exact hpn
  ·rw [if_neg h2];split <;> omega
 have HM2:=aa hM2;rw [hM2];clear hM2;obtain ⟨w4,rfl⟩:∃x,x=wc:=⟨_,rfl⟩;go_wp2_with fail
 go_loopw [11,15,16,17,18] (fun v i _ _ _ wr=>∃(j:Nat) (zs:List Int),i=.int .i64 j∧Hid (zs.length=j∧j≤M2)∧Hid (∀y∈zs,-2147483648≤y∧y≤2147483647)∧Hid (k=2→∀(i:Nat) (x:VaT) (y:Int),p.paL[i]?=some x→zs[i]?=some y→x.lo≤y∧y≤x.hi)∧Hid (wr.ownsRow w4.heap.size 21 1 v j (zs.map (.int .i32)))∧Hid (Below w4.heap.size w4 wr)) (fun _ i _ _ _ _=>M2 - (intOf i).toNat)
 case atStart=>exact ⟨0,[],rfl,⟨rfl,Nat.zero_le _⟩,(fun _ h=>by simp at h),(fun _ i x y _ h=>by simp at h),World.ownsRow_nil _ _ _ _,Below.refl _ _⟩
 case round=>
  obtain ⟨j,zs,rfl,hj,hu,hsp,hO,hB⟩:=hrel;by_cases hlt:j < M2
  ·have hjm:(j:Int) < M2:=by omega
   go_upto_if 56 with fail
   go_cut [16] (fun p16 wx=>∃y:Int,p16=.int .i32 y∧(-2147483648≤y∧y≤2147483647)∧wx=wr)
   case first=>
    by_cases hjN:j < M
    ·obtain ⟨ad,y,hBd,hb2,hy,hcc⟩:=(HAS.below ((ab HB1.out hB.out).mono HB.size)).atg hjN;have hy32:=H32.out y (List.mem_of_getElem? hy);have hjN' : (j:Int) < M:=by omega
     subst hBd;go_wp2_with fail
     go_meet;exact ⟨y,rfl,hy32,rfl⟩
    ·have hjN' : ¬(j:Int) < M:=by omega
     go_wp2_with fail
     go_meet;exact ⟨0,rfl,by decide,rfl⟩
   obtain ⟨y,rfl,hy,rfl⟩:=hcut;refine ‹∀(a:Act) (w:World),Code.wp _ _ _ a w→_› _ _ ?_;obtain ⟨w5,rfl⟩:∃x,x=wc:=⟨_,rfl⟩;have HY:=aa hy;clear hy;go_upto_if 62 with fail
   go_cut [16,17,18] (fun p16 _ _ wx=>∃y:Int,p16=.int .i32 y∧(-2147483648≤y∧y≤2147483647)∧Hid (k=2→∀x,p.paL[j]?=some x→x.lo≤y∧y≤x.hi)∧Hid (Below w5.heap.size w5 wx))
   case first=>
    by_cases h2:k=2
    ·have hjp:j < p.pa.N:=by have:=HM2.out;rw [gC,if_pos h2] at this;omega
     have hB5:=ab HB1.out hB.out;obtain ⟨b,o,x,hA,hb,hr,hx,hok⟩:=(HPG.later hB5).pa.spot hjp;have hx2:=HG.out x (List.mem_of_getElem? hx);obtain ⟨lo,hlo⟩:∃q,x.lo=q:=⟨_,rfl⟩;obtain ⟨hi,hhi⟩:∃q,x.hi=q:=⟨_,rfl⟩;have hsp2 : -2147483648≤lo∧lo≤hi∧hi≤2147483647:=by rw [←hlo,←hhi];unfold jl at hx2;simpa [and_assoc] using hx2
     have HS5:Hid (∀wk,Below w5.heap.size w5 wk→(wk.cell? ⟨z,6,none⟩=some (.slice (some ⟨b,o,none⟩) p.pa.N p.pa.C)∧wk.cell? ⟨b,o+j*4+2,none⟩=some (.int .i64 lo)∧wk.cell? ⟨b,o+j*4+3,none⟩=some (.int .i64 hi))):=by intro wk hbk;have hr2:=eo hr hbk hb;have c6:wk.cell? ⟨z,6,none⟩=some (.slice p.pa.A p.pa.N p.pa.C):=(HZK.later (ab hB5 hbk)).cell 6;have e6:(Value.slice p.pa.A p.pa.N p.pa.C)=.slice (some ⟨b,o,none⟩) p.pa.N p.pa.C:=congrArg (fun a=>Value.slice a p.pa.N p.pa.C) hA;rw [e6] at c6;exact ⟨c6,by rw [←hlo];exact hr2 2 _ rfl,by rw [←hhi];exact hr2 3 _ rfl⟩
     have HX:Hid (∀x',p.paL[j]?=some x'→x'.lo=lo∧x'.hi=hi):=by intro x' hx';rw [hx] at hx';injection hx' with e;subst e;exact ⟨hlo,hhi⟩
     have HSP:=aa hsp2;have HYR:=HY.out;have hjp' : (j:Int) < p.pa.N:=by omega
     subst h2;clear hr hx hok hx2 hlo hhi hA hb hB5 hsp2;go_wp2_with fail
     refine wp_region_held_drew (S:=fun wk=>wk.cell? ⟨z,6,none⟩=some (.slice (some ⟨b,o,none⟩) p.pa.N p.pa.C)∧wk.cell? ⟨b,o+j*4+2,none⟩=some (.int .i64 lo)∧wk.cell? ⟨b,o+j*4+3,none⟩=some (.int .i64 hi)) (by kernel_rfl) (HS5.out _ (ac w5 _ 1)) (fun hHeld=>?_);obtain ⟨w6,hw6⟩:∃wa,w5.drew=wa:=⟨_,rfl⟩;have hb6:Below w5.heap.size w5 w6:=hw6▸ac w5 w5.heap.size 1;rw [hw6] at hHeld ⊢;have HB6:=aa hb6;clear hw6 hb6;refine tk 0 ?_;refine tk 2 ?_;refine tk 6 ?_;refine tk 8 ?_;refine tkv 1 rfl (fun w hSw=>by have hcell:=hSw.1;clear hSw;go_simp;try with_reducible rfl) ?_;refine tkv 7 rfl (fun w hSw=>by have hcell:=hSw.1;clear hSw;go_simp;try with_reducible rfl) ?_;refine tk 3 ?_;refine tk 9 ?_;refine tk 4 ?_;refine tk 10 ?_;refine tkv 5 rfl (fun w hSw=>by have hcell:=hSw.2.1;clear hSw;go_simp;try with_reducible rfl) ?_;refine tkv 11 rfl (fun w hSw=>by have hcell:=hSw.2.2;clear hSw;go_simp;try with_reducible rfl) ?_;refine tk 12 ?_;refine tk 13 ?_;refine wpAnyH_done rfl ?_ _;clear hHeld;obtain ⟨g1,g2,g3⟩:=HSP.out;obtain ⟨y1,y2⟩:=HYR;obtain ⟨d,hd⟩:∃d,hi - lo+1=d:=⟨_,rfl⟩;obtain ⟨y',hy'⟩:∃y',y % 18446744073709551616=y':=⟨_,rfl⟩;have e1:wrap64 (hi - lo)=hi - lo:=by unfold wrap64;omega
     have e2:wrap64 (hi - lo+1)=d:=by unfold wrap64;omega
     have e3:IntKind.u64.wrap d=d:=by rw [IntKind.wrap_u64];omega
     have e4:IntKind.u64.wrap y=y':=by rw [IntKind.wrap_u64];omega
     go_wp2_with fail
     have r1:0≤y' % d∧y' % d < d:=⟨Int.emod_nonneg _ (by omega),Int.emod_lt_of_pos _ (by omega)⟩;obtain ⟨r,hr⟩:∃r,y' % d=r:=⟨_,rfl⟩;rw [hr] at r1 ⊢;have e5:wrap64 r=r:=by unfold wrap64;omega
     have e6:wrap64 (lo+r)=lo+r:=by unfold wrap64;omega
     have e7:wrap32 (lo+r)=lo+r:=by unfold wrap32;omega
     rw [e5,e6,e7];go_meet;exact ⟨lo+r,rfl,by omega,(fun _ x' hx'=>by obtain ⟨q1,q2⟩:=HX.out x' hx';omega),HB6.out⟩
    ·have h2' : ¬(k:Int)=2:=by omega
     go_wp2_with fail
     go_meet;exact ⟨y,rfl,HY.out,(fun h=>absurd h h2),Below.refl _ _⟩
   obtain ⟨y2,rfl,hy2,hx2,hB6⟩:=hcut;refine ‹∀(a:Act) (w:World),Code.wp _ _ _ a w→_› _ _ ?_;obtain ⟨w6,rfl⟩:∃x,x=wc:=⟨_,rfl⟩;have HY2:=aa hy2;have HO6:=aa (az hO.out hB6.out);have HB6:=aa (ab hB.out hB6.out);clear hy2;go_wp2_with (with_reducible refine a8 27 _ _ rfl ?_)
   refine ak.go ?_;refine ar (by rfl) 27 1 _ rfl #[(0,.int .i32 y2)] (by simp [Act.eval,Act.put]) 21 [.int .i32 y2] (fun w=>pQ _ w) ?_;intro q9 w9 hq9 hb9 hbn;have HN9:=aa hb9;have HO9:=aa (az HO6.out hbn);have HB9:=aa (ab HB6.out hbn);clear hq9 hb9 hbn;obtain ⟨i0,hj0,hj1,hj2,hj3⟩:=info_parts Tryz.infoI32;have hbw:w4.heap.size≤w9.heap.size:=HB9.size;go_wp2_with (at_builtin;refine bm _ rfl (.tmp 87) (.tmp 89) 27 rfl w4.heap.size 21 i0 _ _ _ Tryz.underlying27 hj0 hj1 hj2 hj3 rfl (by decide) _ _ _ rfl HO9.out _ _ _ _ _ rfl (HN9.sl (n:=1) rfl (by omega) (fun _ _ h=>h)) (by intro u hu;simp at hu;subst hu;rfl) (by unfold maxLen;omega) (by omega) hbw ?_;intro v10 w10 hown hg hat;refine bA ?_)
   refine ak.go ?_;have HO10:Hid (w10.ownsRow w4.heap.size 21 1 v10 (j+1) ((zs ++ [y2]).map (.int .i32))):=by show World.ownsRow _ _ _ _ _ _ _;rw [List.map_append];exact hown
   have HB10:=aa (aB HB9.out HO9.out hg (Nat.le_refl _) hbw);clear hown hg hat hj0 hj1 hj2 hj3 i0 hbw;have HU10:=aa (nj hu.out HY2.out);have HX10:=aa (xZ hj.out.1 hsp.out hx2.out);go_wp2_with fail
   go_roundw
   case rel=>exact ⟨j+1,zs ++ [y2],by go_num,⟨by rw [List.length_append,hj.out.1];rfl,by omega⟩,HU10.out,HX10.out,HO10.out,HB10.out⟩
   case measure=>simp [intOf];omega
  ·have hjm:¬(j:Int) < M2:=by omega
   obtain rfl:j=M2:=by have:=hj.out.2;omega
   obtain ⟨B2,D2,rfl⟩:=aI hO.out;go_wp2_with fail
   go_ret2;refine ⟨⟨A1,C1,us,B2,D2,zs,?_,?_,?_,HUR.out,hu.out,hsp.out⟩,ab HB.out (ab HB1.out hB.out)⟩
   ·rw [HM2.out,HN1.out];rfl
   ·rw [HN1.out];exact HUS.later hB.out
   ·rw [HM2.out];exact Sl.of_own hO.out
end Go.Proofs.YtllbdpdnpaocnaaGreatDoor
