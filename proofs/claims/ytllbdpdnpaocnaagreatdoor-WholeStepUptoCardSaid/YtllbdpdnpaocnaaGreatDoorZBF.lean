/- Part of the proof of WholeStep. -/
import Derived.Test.YtllbdpdnpaocnaaGreatDoorZBE
import Derived.Laws.RangeAny
import Derived.Lib.OthersKept
namespace Go.Proofs.YtllbdpdnpaocnaaGreatDoor
set_option linter.unusedSimpArgs false
set_option linter.unusedVariables false
set_option linter.constructorNameAsVariable false
open Go.RowKit Go.Maps
def AV (base:Nat) (s:MsT) (e:Ending) (w:World):Prop:=∃q C ys,e=.returned (.agg (aF s.pc (.slice (some ⟨q,0,none⟩) s.mem.length C) s.halt).toArray)∧base≤q∧Bk w q 21 (s.mem.map (.int .i32) ++ ys)
def Ag (base:Nat) (s:MsT) (e:Ending) (w:World):Prop:=∃q C n b ys,e=.returned (.tuple #[.agg (aF s.pc (.slice (some ⟨q,0,none⟩) s.mem.length C) s.halt).toArray,n,.bool b])∧base≤q∧Bk w q 21 (s.mem.map (.int .i32) ++ ys)
theorem qo {P:Program} {fn:Func} {q u v:Tmp} {ty:TypeId} (h:fn.results= #[.cell q ty,.tmp u,.tmp v]) (tmps:Array Value) (w:World) (g:Nat) (t:TypeId) (cs:List Value) (d:TypeDesc) (hp:tmps.getD q undef=.pointer (some ⟨g,0,none⟩)) (hg:Bk w g t cs) (hu:P.underlying ty=some d) (hd:(match d with | .struct _ | .array _ _=>true | _=>false)=true) (hi:(P.info? ty).map (·.size)=some cs.length):(results fn tmps).run P w=.ok (.tuple #[.agg cs.toArray,tmps.getD u undef,tmps.getD v undef]) w:=by
 have hp' : tmps[q]?.getD undef=.pointer (some ⟨g,0,none⟩):=by simpa using hp
 simp only [results,h];simp [Sem.run_bind,hp',asAddr,run_loadVar_row w g t ty cs.toArray (0,0) d hg hu hd (by simpa using hi),Result.andThen]
def AX (l:List InT) (s:MsT) (k:Nat):MsT:=match k with | 0=>s | _+1=>be l s
set_option maxRecDepth 20000 in
set_option maxHeartbeats 1000000 in
theorem xc (w:World) (s:MsT) (A:Option Addr) (C:Nat) (c:Sln) (L:List aX) (hm:Sl w w.heap.size 1 A s.mem.length (s.mem.map (.int .i32))) (ok:eF s) (h0:s.halt=0) (hc:bZ w w.heap.size c L) (hL:cX w) (h6:6≤w.heap.size):Calls Tryz.prog 34 #[.slice c.A c.N c.C,.agg (aF s.pc (.slice A s.mem.length C) s.halt).toArray,.int .i64 1] w fun e w'=>Ag w.heap.size (be (L.map toI) s) e w'∧Below w.heap.size w w':=by
 obtain ⟨z,hz⟩:∃z,w.heap.size=z:=⟨_,rfl⟩;obtain ⟨w1,hw1⟩:∃w1,(w.alloc (.cells (aF s.pc (.slice A s.mem.length C) s.halt).toArray 38)).alloc (.cells #[.int .i64 0,.slice none 0 0,.int .i64 0] 38)=w1:=⟨_,rfl⟩;have hk:Bk w1 z 38 (aF s.pc (.slice A s.mem.length C) s.halt):=hw1▸(Bk.at_ w _ _ hz rfl).alloc _;have hr:Bk w1 (z+1) 38 (aF 0 (.slice none 0 0) 0):=hw1▸Bk.at_ _ _ _ (by simp [hz]) rfl;have hb:Below w.heap.size w w1:=hw1▸(ai w _).alloc (by simp) _;have HW:=aa hw1;have HB:=aa hb;have HZ:=aa hz;have HK:=aa hk;have HR:=aa hr;have HM:=aa (hm.later hb);have HOK:=aa ok;have HC:=aa hc;have HL:=aa hL;have H6:=aa h6;have H0:=aa h0;clear hk hr hw1 hz hb hm ok hc hL h6 h0;go_enter Tryz.func34,Tryz.ntmps34;go_upto_region 1 with fail
 rw [HW.out,HZ.out];go_wp2_with (with_reducible refine aj rfl 38 _ rfl z rfl (aF s.pc (.slice A s.mem.length C) s.halt) 38 HK.out _ Tryz.underlying38 rfl (aN _ _ _) ?_)
 refine (sc w1 s A C HM.out HOK.out).mono ?_;rintro e w2 ⟨⟨q,C2,ys,rfl,hq,hbq⟩,hbn⟩;have HBQ:=aa hbq;have HQ:=aa (Nat.le_trans HB.size hq);have HB2:=aa (ab HB.out hbn);have HK2:=aa (HK.later hbn);have HR2:=aa (HR.later hbn);have hzq:q≠z∧q≠z+1:=by have:=HR.lt;omega
 have HZQ:=aa hzq;clear hbq hq hbn hzq;go_wp2_with (with_reducible refine ah 38 _ _ rfl ?_)
 refine ak.go ?_;refine ae rfl 38 _ _ rfl z 0 (.agg (aF s.pc (.slice (some ⟨q,0,none⟩) s.mem.length C2) s.halt).toArray) (aF s.pc (.slice (some ⟨q,0,none⟩) s.mem.length C2) s.halt) rfl rfl rfl 38 [] (aF s.pc (.slice A s.mem.length C) s.halt) [] (by simpa using HK2.out) rfl rfl (aN _ _ _) (dq _ _ _ _ _) ?_;intro w3 hp;have HS3:Hid (MsW w3 z q C2 s):=⟨by have:=hp.bk;simpa [aF] using this,⟨ys,HBQ.grown hp.only (fun e=>by injection e with e;exact HZQ.out.1 e)⟩,HOK.out⟩;have HB3:=aa (ag HB2.out hp.only HB2.size (by have:=HZ.out;omega));have HR3:=aa (HR2.grown hp.only (fun e=>by injection e with e;omega));clear hp;go_wp2_with (with_reducible refine aj rfl 38 _ rfl z rfl (aF s.pc (.slice (some ⟨q,0,none⟩) s.mem.length C2) s.halt) 38 HS3.out.bk _ Tryz.underlying38 rfl (aN _ _ _) ?_)
 refine (jE w3 s _ C2 HOK.out).mono ?_;rintro e w4 ⟨rfl,hbn⟩;have HS4:=aa (HS3.later hbn);have HB4:=aa (ab HB3.out hbn);have HR4:=aa (HR3.later hbn);clear hbn;go_wp2_with fail
 refine (ut w4).mono ?_;rintro e w5 ⟨⟨mb,rfl,hmb,hlo⟩,hbn⟩;have HS5:=aa (HS4.later hbn);have HB5:=aa (ab HB4.out hbn);have HR5:=aa (HR4.later hbn);have HM5:=aa hmb;clear hbn hmb hlo;go_wp2_with fail
 go_loopw [10] (fun n wr=>∃k:Nat,k≤1∧n=.int .i64 k∧Hid (MsW wr z q C2 (AX (L.map toI) s k))∧Hid (Ch2 z q w5 wr)∧Hid (k=0→cZ cG wr mb)) (fun n _=>1 - (intOf n).toNat)
 case atStart=>exact ⟨0,by omega,rfl,HS5.out,Ch2.refl _ _ _,fun _=>HM5.out⟩
 case round=>
  obtain ⟨k,hk,rfl,hS,hC,hMp⟩:=hrel;have HBr:=aa (hC.out.below HB5.out (by have:=HZ.out;omega) (by have:=HQ.out;omega) HB5.size);by_cases hlt:k < 1
  ·obtain rfl:k=0:=by omega
   have d2:wr.cell? ⟨z,2,none⟩=some (.int .i64 0):=by have:=hS.out.bk.cell 2;simpa [aF,AX,H0.out] using this
   have hcr:=(HC.below HBr.out).more HBr.size;have hlr:=HL.below H6.out HBr.out;have HST:=aa (xb wr z q C2 s c L mb hS.out hcr hlr (hMp.out rfl));clear hcr hlr;go_wp2_with fail
   refine HST.mono ?_;rintro e w6 ⟨rfl,h1,h2⟩;have HS6:=aa h1;have HC6:=aa (hC.out.trans h2);clear h1 h2 HST;go_wp2_with fail
   go_roundw
   case rel=>exact ⟨1,by omega,by go_num,HS6.out,HC6.out,fun e=>by omega⟩
   case measure=>simp [intOf]
  ·obtain rfl:k=1:=by omega
   go_wp2_with fail
   have hS1:MsW wr z q C2 (be (L.map toI) s):=hS.out;have HS1:=aa hS1;have HR6:=aa (hC.out.bk HR5.out (by omega) (fun e=>HZQ.out.2 e.symm));obtain ⟨s1,hs1⟩:∃x,be (L.map toI) s=x:=⟨_,rfl⟩;rw [hs1] at HS1;have HE:=aa hs1;have HLN:Hid (s1.mem.length=s.mem.length):=by show _=_;rw [←hs1];exact (oc HOK.out).2
   clear hS1 hs1 hS hMp;refine wp_region_held_drew (S:=fun wk=>Bk wk z 38 (aF s1.pc (.slice (some ⟨q,0,none⟩) s1.mem.length C2) s1.halt)) (by kernel_rfl) (HS1.bk.later (ac wr _ 1)) (fun hHeld=>?_);obtain ⟨wd,hwd⟩:∃wa,wr.drew=wa:=⟨_,rfl⟩;have hbd:Below wr.heap.size wr wd:=hwd▸ac wr wr.heap.size 1;rw [hwd] at hHeld ⊢;have HSd:=aa (HS1.later hbd);have HBd:=aa (HBr.trans (hbd.mono HBr.size));have HRd:=aa (HR6.later hbd);clear hwd hbd;refine tkR 0 (aF s1.pc (.slice (some ⟨q,0,none⟩) s1.mem.length C2) s1.halt) (fun w hSw=>(Bk.range (pre:=[]) (post:=[]) (by simpa using hSw) rfl)) Tryz.underlying38 ((aN _ _ _)) ?_;refine tk 1 ?_;refine tk 2 ?_;refine tkv 3 rfl (fun w hSw=>by have hcell:=(show w.cell? ⟨z,2,none⟩=some (.int .i64 s1.halt) from hSw.cell 2);clear hSw;go_simp;try with_reducible rfl) ?_;refine tk 4 ?_;refine rdw 5 (fun K hK=>?_);refine au 38 _ _ rfl (z+1) 0 (.agg (aF s1.pc (.slice (some ⟨q,0,none⟩) s1.mem.length C2) s1.halt).toArray) (aF s1.pc (.slice (some ⟨q,0,none⟩) s1.mem.length C2) s1.halt) rfl rfl rfl 38 [] (aF 0 (.slice none 0 0) 0) [] (by simpa using HRd.out) rfl rfl (aN _ _ _) (dq _ _ _ _ _) ?_;intro w9 hp;have HK9:Hid (Bk w9 (z+1) 38 (aF s1.pc (.slice (some ⟨q,0,none⟩) s1.mem.length C2) s1.halt)):=by show Bk _ _ _ _;have:=hp.bk;simpa using this
   have hs9:Bk w9 z 38 (aF s1.pc (.slice (some ⟨q,0,none⟩) s1.mem.length C2) s1.halt):=HSd.bk.grown hp.only (fun e=>by injection e with e;omega);have HB9:=aa (ag HBd.out hp.only HBd.size (by have:=HZ.out;omega));have HY9:Hid (∃ys,Bk w9 q 21 (s1.mem.map (.int .i32) ++ ys)):=by obtain ⟨ys,hr⟩:=HSd.row;exact ⟨ys,hr.grown hp.only (fun e=>by injection e with e;exact HZQ.out.2 e)⟩
   clear hp;refine hK.out _ _ hs9 (fun hHeld=>?_);clear hK K hs9;try simp only [Act.put,q1,q2,q3,q4,q5,q6]
   refine tk 6 ?_;refine tk 7 ?_;refine wpAnyH_done rfl ?_ _;go_wp2_with fail
   refine bodyPost_ret (qo rfl _ _ (z+1) 38 _ _ rfl HK9.out Tryz.underlying38 rfl (aN _ _ _)) rfl ?_;rw [HE.out];obtain ⟨ys,hr⟩:=HY9.out;exact ⟨⟨_,C2,_,_,ys,rfl,HQ.out,hr⟩,HB9.out⟩
set_option maxRecDepth 20000 in
theorem nB (w:World) (s:MsT) (A:Option Addr) (C:Nat) (c:Sln) (L:List aX) (hm:Sl w w.heap.size 1 A s.mem.length (s.mem.map (.int .i32))) (ok:eF s) (h0:s.halt=0) (hc:bZ w w.heap.size c L) (hL:cX w) (h6:6≤w.heap.size):Calls Tryz.prog 11 #[.slice c.A c.N c.C,.agg (aF s.pc (.slice A s.mem.length C) s.halt).toArray] w fun e w'=>AV w.heap.size (be (L.map toI) s) e w'∧Below w.heap.size w w':=by
 obtain ⟨z,hz⟩:∃z,w.heap.size=z:=⟨_,rfl⟩;obtain ⟨w1,hw1⟩:∃w1,(w.alloc (.cells (aF s.pc (.slice A s.mem.length C) s.halt).toArray 38)).alloc (.cells #[.int .i64 0,.slice none 0 0,.int .i64 0] 38)=w1:=⟨_,rfl⟩;have hk:Bk w1 z 38 (aF s.pc (.slice A s.mem.length C) s.halt):=hw1▸(Bk.at_ w _ _ hz rfl).alloc _;have hr:Bk w1 (z+1) 38 (aF 0 (.slice none 0 0) 0):=hw1▸Bk.at_ _ _ _ (by simp [hz]) rfl;have hb:Below w.heap.size w w1:=hw1▸(ai w _).alloc (by simp) _;have HW:=aa hw1;have HB:=aa hb;have HZ:=aa hz;have HK:=aa hk;have HR:=aa hr;have HRN:=aa (xc w1 s A C c L (hm.later hb) ok h0 ((hc.below hb).more hb.size) (hL.later hb) (Nat.le_trans h6 hb.size));clear hk hr hw1 hz hb hm ok hc hL h6 h0;go_enter Tryz.func11,Tryz.ntmps11;go_upto_region 1 with fail
 rw [HW.out,HZ.out];go_wp2_with (with_reducible refine aj rfl 38 _ rfl z rfl (aF s.pc (.slice A s.mem.length C) s.halt) 38 HK.out _ Tryz.underlying38 rfl (aN _ _ _) ?_)
 refine HRN.mono ?_;rintro e w2 ⟨⟨q,C2,n2,b2,ys,rfl,hq,hsl⟩,hbn⟩;have hlt:=HR.lt;have HSL:=aa hsl;have HQ:Hid (z+1 < q∧w.heap.size≤q):=⟨by omega,by have:=HB.size;omega⟩;have HB2:=aa (ab HB.out hbn);have HR2:=aa (HR.later hbn);obtain ⟨s1,hs1⟩:∃x,be (L.map toI) s=x:=⟨_,rfl⟩;rw [hs1] at HSL ⊢;have HE:=aa hs1;clear hsl hbn HRN hs1 hq hlt;go_wp2_with (with_reducible refine ah 38 _ _ rfl ?_)
 refine ak.go ?_;obtain ⟨g,hg⟩:∃q,w2.heap.size=q:=⟨_,rfl⟩;have HG:=aa hg;rw [hg];refine an 38 _ _ rfl g hg (aF s1.pc (.slice (some ⟨q,0,none⟩) s1.mem.length C2) s1.halt) rfl rfl rfl rfl (aN _ _ _) (dq _ _ _ _ _) ?_;intro w3 hk hbn;have HK3:=aa hk;have HB3:=aa (ab HB2.out hbn);have HR3:=aa (HR2.later hbn);have HSL3:=aa (HSL.later hbn);clear hk hbn hg;go_wp2_with (first | (with_reducible refine aj rfl 38 _ rfl g rfl (aF s1.pc (.slice (some ⟨q,0,none⟩) s1.mem.length C2) s1.halt) 38 HK3.out _ Tryz.underlying38 rfl (aN _ _ _) ?_) | (with_reducible refine ah 38 _ _ rfl ?_))
 refine ak.go ?_;refine ae rfl 38 _ _ rfl (z+1) 0 (.agg (aF s1.pc (.slice (some ⟨q,0,none⟩) s1.mem.length C2) s1.halt).toArray) (aF s1.pc (.slice (some ⟨q,0,none⟩) s1.mem.length C2) s1.halt) rfl rfl rfl 38 [] (aF 0 (.slice none 0 0) 0) [] (by simpa using HR3.out) rfl rfl (aN _ _ _) (dq _ _ _ _ _) ?_;intro w9 hp;have HK9:Hid (Bk w9 (z+1) 38 (aF s1.pc (.slice (some ⟨q,0,none⟩) s1.mem.length C2) s1.halt)):=by show Bk _ _ _ _;have:=hp.bk;simpa using this
 have HB9:=aa (ag HB3.out hp.only HB3.size (by have:=HZ.out;omega));have HSL9:=aa (HSL3.grown hp.only (fun e=>by injection e with e;have:=HQ.out.1;omega));clear hp;go_wp2_with fail
 refine bodyPost_ret (bH rfl _ _ (z+1) 38 _ _ rfl HK9.out Tryz.underlying38 rfl (aN _ _ _)) rfl ?_;rw [HE.out];exact ⟨⟨q,C2,ys,rfl,HQ.out.2,HSL9.out⟩,HB9.out⟩
theorem xe {xs:List Int} {x y:Int} {k:Nat} (h:x ∉ xs.take k) (hy:xs[k]?=some y) (hn:x≠y):x ∉ xs.take (k+1):=by rw [List.take_add_one,hy];simp [h,hn]
set_option maxRecDepth 20000 in
theorem ux (w:World) (B:Nat) (A:Option Addr) (n C:Nat) (xs:List Int) (x:Int) (h:Sl w B 1 A n (xs.map (.int .i64))) (hn:n≤1048576):Calls Tryz.prog 154 #[.slice A n C,.int .i64 x] w fun e w'=>(∃r:Int,e=.returned (.int .i64 r)∧decide (0≤r)=decide (x∈xs))∧w=w':=by
 have HS:=aa h;have HL:=aa h.length;clear h;go_enter Tryz.func154,Tryz.ntmps154;go_wp2_with fail
 go_loop [5,8] (fun _ i=>∃k:Nat,k≤n∧i=.int .i64 k∧Hid (x ∉ xs.take k)) (fun _ i=>n - (intOf i).toNat);case atStart=>exact ⟨0,Nat.zero_le _,rfl,by show _ ∉ _;simp⟩
 case round=>
  obtain ⟨k,hk,rfl,hX⟩:=hrel;by_cases hlt:k < n
  ·obtain ⟨ad,y,hA,hb,hy,hc⟩:=HS.at_ hlt;have hkn:(k:Int) < n:=by omega
   have HY:=aa hy;clear hb hy;subst hA;cases hxy:(x == y) with
   | true=>
    go_wp2_with fail
    go_ret;have hm:x∈xs:=by rw [eq_of_beq hxy];exact List.mem_of_getElem? HY.out
    exact ⟨⟨_,rfl,by simp [hm]⟩,rfl⟩
   | false=>
    go_wp2_with fail
    go_round;case rel=>exact ⟨k+1,by omega,by go_num,xe hX.out HY.out (ne_of_beq_false hxy)⟩
    case measure=>simp [intOf];omega
  ·go_wp2_with fail
   go_ret;have hm:x ∉ xs:=by have:=hX.out;rwa [List.take_of_length_le (by rw [HL.out];omega)] at this
   exact ⟨⟨_,rfl,by simp [hm]⟩,rfl⟩
theorem fE (w:World) (B:Nat) (A:Option Addr) (n C:Nat) (xs:List Int) (x:Int) (h:Sl w B 1 A n (xs.map (.int .i64))) (hn:n≤1048576):Calls Tryz.prog 86 #[.slice A n C,.int .i64 x] w fun e w'=>e=.returned (.bool (decide (x∈xs)))∧w=w':=by
 have HS:=aa h;clear h;obtain ⟨b,hb⟩:∃b,decide (x∈xs)=b:=⟨_,rfl⟩;have HI:=aa (ux w B A n C xs x HS.out hn);rw [hb] at HI ⊢;clear hb;go_enter Tryz.func86,Tryz.ntmps86;go_wp2_with fail
 refine HI.mono ?_;rintro e w' ⟨⟨r,rfl,hr⟩,rfl⟩;cases b;all_goals
  go_wp2_with fail
  go_ret;exact ⟨by rw [←hr];rfl,rfl⟩
def Ah:List ByteArray:=[⟨#[]⟩,⟨#[110]⟩,⟨#[119,110]⟩,⟨#[119,119]⟩,⟨#[119,119,119]⟩,⟨#[119,110,110]⟩,⟨#[119,119,110]⟩,⟨#[112]⟩,⟨#[112,119]⟩]
def qp (s:ByteArray):Bool:=match s.data.toList with | 119 :: _=>true | _=>false
theorem yH:∀k:Fin 22,lP.getD k.val []∈([[],[110],[119,110],[119,119],[119,119,119],[119,110,110],[119,119,110],[112],[112,119]]:List (List UInt8)):=by decide
theorem Ai {op:Int} (h:ek op=true):fv op∈Ah:=by
 have h1:0≤op∧op < 22:=by simpa [ek] using h
 rw [fv,if_pos h];exact List.mem_map_of_mem (f:=fun l:List UInt8=>(⟨l.toArray⟩:ByteArray)) (yH ⟨op.toNat,by omega⟩)
theorem xf {op:Int} (h:ek op=true):qp (fv op)=decide ((aU op)[0]?=some 0):=by
 have h1:0≤op∧op < 22:=by simpa [ek] using h
 have:∀k:Fin 22,qp ⟨(lP.getD k.val []).toArray⟩=decide ((aU (k.val:Int))[0]?=some 0):=by decide
 have h2:=this ⟨op.toNat,by omega⟩;simp only [Int.toNat_of_nonneg h1.1] at h2;rw [←h2,fv,if_pos h]
set_option maxRecDepth 20000 in
theorem mN (s:ByteArray) (hs:s∈Ah) (w:World):Calls Tryz.prog 153 #[.string s,.string ⟨#[119]⟩] w fun e w'=>e=.returned (.bool (qp s))∧w=w':=by
 simp only [Ah,List.mem_cons,List.not_mem_nil,or_false] at hs;rcases hs with rfl | rfl | rfl | rfl | rfl | rfl | rfl | rfl | rfl;all_goals
  go_enter Tryz.func153,Tryz.ntmps153;go_wp2;go_ret;exact ⟨by kernel_rfl,rfl⟩
set_option maxRecDepth 20000 in
theorem qq (w:World) (i:aX) (hL:cX w) (ho:ek i.op=true):Calls Tryz.prog 84 #[.agg (ay i).toArray] w fun e w'=>e=.returned (.int .i64 (aK (toI i)))∧Below w.heap.size w w':=by
 obtain ⟨z,hz⟩:∃z,w.heap.size=z:=⟨_,rfl⟩;obtain ⟨w1,hw1⟩:∃w1,w.alloc (.cells (ay i).toArray 51)=w1:=⟨_,rfl⟩;have hk:Bk w1 z 51 (ay i):=hw1▸Bk.at_ w _ _ hz rfl;have hb:Below w.heap.size w w1:=hw1▸ai w _;obtain ⟨q,hq⟩:∃q,aK (toI i)=q:=⟨_,rfl⟩;rw [hq];have hq' : (if qp (fv i.op)=true∧i.op≠16 then i.a else -1)=q:=by
  rw [←hq,xf ho];show _=if (aU i.op)[0]?=some 0∧i.op≠16 then i.a else -1
  by_cases h1:(aU i.op)[0]?=some 0 <;> by_cases h2:i.op=16 <;> simp [h1,h2]
 have HW:=aa hw1;have HB:=aa hb;have HZ:=aa hz;have HL:=aa (hL.later hb);have HK:=aa hk;have HIN:=aa (Ai ho);clear hk hw1 hz hb hL hq ho;go_enter Tryz.func84,Tryz.ntmps84;go_upto_region 1 with fail
 rw [HW.out,HZ.out];go_wp2_with (with_reducible refine aj rfl 51 _ rfl z rfl (ay i) 51 HK.out _ Tryz.underlying51 rfl (aW i) ?_)
 refine (ml w1 i HL.out).mono ?_;rintro e w2 ⟨rfl,hbn⟩;have HK2:=aa (HK.later hbn);have HB2:=aa (ab HB.out hbn);clear hbn;have c0:w2.cell? ⟨z,0,none⟩=some (.int .i64 i.op):=HK2.cell 0;have c1:w2.cell? ⟨z,1,none⟩=some (.int .i64 i.a):=HK2.cell 1;obtain ⟨s,hs⟩:∃s,fv i.op=s:=⟨_,rfl⟩;obtain ⟨x,hx⟩:∃x,qp s=x:=⟨_,rfl⟩;rw [hs,hx] at hq';rw [hs] at HIN ⊢;have HP:=aa (mN s HIN.out w2);rw [hx] at HP;have HQ:=aa hq';clear hs hx hq';go_wp2_with fail
 refine HP.mono ?_;rintro e w' ⟨rfl,rfl⟩;cases x with
 | false=>
  go_wp2_with fail
  go_ret;have e1:q= -1:=by rw [←HQ.out];simp
  subst e1;exact ⟨rfl,HB2.out⟩
 | true=>
  cases h6:(i.op != 16) with
  | false=>
   go_wp2_with fail
   go_ret;have h6' : i.op=16:=by simpa using h6
   have e1:q= -1:=by rw [←HQ.out];simp [h6']
   subst e1;exact ⟨rfl,HB2.out⟩
  | true=>
   go_wp2_with fail
   go_ret;have h6' : i.op≠16:=by simpa using h6
   have e1:q=i.a:=by rw [←HQ.out];simp [h6']
   subst e1;exact ⟨rfl,HB2.out⟩
def lwK (i:aX) (k:Nat):Bool:=decide ((aU i.op)[k]?=some 0) && (!(decide (k=0) && decide (i.op≠17)) && !(decide (k=1) && decide (i.op=15)))
def nmK (i:aX):Nat→List Int
 | 0=>[]
 | k+1=>if lwK i k=true then (if dI i k∈nmK i k then nmK i k else nmK i k ++ [dI i k]) else nmK i k
theorem hU (i:aX):∀k,(nmK i k).length≤k
 | 0=>Nat.le_refl _
 | k+1=>by
  have:=hU i k;unfold nmK
  repeat' split
  all_goals first | omega | (rw [List.length_append];simp;omega)
theorem mr {i:aX} {k:Nat} (h:lwK i k=false):nmK i (k+1)=nmK i k:=by rw [nmK,if_neg (by rw [h];decide)]
theorem oN {i:aX} {k:Nat} (h:lwK i k=true) (hm:dI i k∈nmK i k):nmK i (k+1)=nmK i k:=by rw [nmK,if_pos h,if_pos hm]
theorem oO {i:aX} {k:Nat} (h:lwK i k=true) (hm:dI i k ∉ nmK i k):nmK i (k+1)=nmK i k ++ [dI i k]:=by rw [nmK,if_pos h,if_neg hm]
theorem yI {i:aX} (h:ek i.op=true):nmK i (aU i.op).length=bi (toI i):=by
 have e0:(toI i).op=i.op:=rfl;have e1:(toI i).a=i.a:=rfl;have e2:(toI i).b=i.b:=rfl;have e3:(toI i).c=i.c:=rfl;rcases fX h with k | k | k | k | k | k | k | k | k | k | k | k
 ·simp [aU,k,nmK,lwK,bi,e0]
 ·simp [aU,k,nmK,lwK,bi,e0]
 ·simp [aU,k,nmK,lwK,bi,e0,e2,dI]
 ·rw [fe k,gB (.inl k)];have n17:i.op≠17:=by omega
  have n15:i.op≠15:=by omega
  rw [e2,e3];simp [fe k,nmK,lwK,n17,n15,dI];by_cases hbc:i.c=i.b
  ·rw [if_pos hbc,if_pos hbc.symm]
  ·rw [if_neg hbc,if_neg (fun h=>hbc h.symm)]
 ·simp [aU,k,nmK,lwK,bi,e0,e2,dI]
 ·simp [aU,k,nmK,lwK,bi,e0,e3,dI]
 ·rw [gB (.inr k),e2,e3];simp [aU,k,nmK,lwK,dI];by_cases hbc:i.c=i.b
  ·rw [if_pos hbc,if_pos hbc.symm]
  ·rw [if_neg hbc,if_neg (fun h=>hbc h.symm)]
 ·simp [aU,k,nmK,lwK,bi,e0,e1,dI]
 ·simp [aU,k,nmK,lwK,bi,e0,e2,dI]
 ·simp [aU,k,nmK,lwK,bi,e0]
 ·simp [aU,k,nmK,lwK,bi,e0,e2,dI]
 ·simp [aU,k,nmK,lwK,bi,e0,e2,dI]
theorem uz:∀k:Fin 22,∀b∈lP.getD k.val [],b.toNat < 128:=by decide
theorem Ak {op:Int} {k:Nat} (hk:k < (fv op).size):((fv op)[k]).toNat < 128:=by
 have hm:(fv op)[k]∈(fv op).data.toList:=by
  have:k < (fv op).data.toList.length:=by rw [Array.length_toList];exact hk
  exact List.getElem_mem this
 revert hm;generalize (fv op)[k]=b;intro hm;unfold fv at hm;split at hm
 ·rename_i h;have h1:0≤op∧op < 22:=by simpa [ek] using h
  exact uz ⟨op.toNat,by omega⟩ b (by simpa using hm)
 ·simp at hm
theorem jF (x:Int) (w:World):(Instr.buildSlice 22 1 #[(0,.int .i64 x)]).run Tryz.prog w=.ok (.slice (some ⟨w.heap.size,0,none⟩) 1 1) (w.alloc (.cells #[.int .i64 x] 3)):=by kernel_rfl
theorem Tryz.infoI64:(Tryz.prog.info? 3).map (fun i=>(i.zero,i.size,i.bytes))=some (some (.int .i64 0),1,8):=by kernel_rfl
theorem jG {w:World} {it g:Nat} {s:ByteArray} {p:Nat} {t:TypeId} {xs:List Value} (h:w.heap[it]?=some (.stringIter s p)) (hb:Bk w g t xs):it≠g:=by intro e;subst e;unfold Bk at hb;rw [hb] at h;cases h
theorem gm {w:World} {it base n size:Nat} {s:ByteArray} {p:Nat} {e:TypeId} {v:Value} {xs:List Value} (h:w.heap[it]?=some (.stringIter s p)) (ho:w.ownsRow base e size v n xs):v.ownBlock≠some it:=by
 obtain ⟨rfl,_⟩ | ⟨g,cap,ys,rfl,_,hb,_⟩:=dA ho
 ·simp [Value.ownBlock]
 ·intro e;have:g=it:=by simpa [Value.ownBlock] using e
  exact jG h hb this.symm
theorem uA (w:World) (it:Nat) (s:ByteArray) (k:Nat) (ty:TypeId) (h:w.heap[it]?=some (.stringIter s k)) (hk:k < s.size) (ha:(s[k]).toNat < 128):∃w2,(Instr.next (.pointer (some ⟨it,0,none⟩)) true ty).run Tryz.prog w=.ok (.tuple #[.bool true,.int .i64 k,.int .i32 (s[k]).toNat]) w2∧w2.heap[it]?=some (.stringIter s (k+1))∧w.grownBy w2 (some it):=by refine ⟨_,Lib.run_next_ascii_at w it s k ty h hk ha,Lib.iterAt_heap w it s k (k+1) h,⟨rfl,rfl,rfl,Nat.le_of_eq (Lib.iterAt_size ..).symm,fun b hb hne=>Lib.iterAt_other w it b s (k+1) (fun e=>hne (by rw [e]))⟩⟩
structure yJ (w wr:World) (z g it:Nat) (i:aX) (s:ByteArray) (k:Nat) (v:Value):Prop where
 bk:Bk wr z 51 (ay i)
 tr:Bk wr g 169 [.int .i64 i.a,.int .i64 i.b,.int .i64 i.c]
 itr:wr.heap[it]?=some (.stringIter s k)
 own:wr.ownsRow w.heap.size 3 1 v (nmK i k).length ((nmK i k).map (.int .i64))
 hb:Below w.heap.size w wr
 lo:w.heap.size≤it
theorem yJ.on {w wr w2:World} {z g it k:Nat} {i:aX} {s:ByteArray} {v:Value} (h:yJ w wr z g it i s k v) (hit:w2.heap[it]?=some (.stringIter s (k+1))) (hg:wr.grownBy w2 (some it)):Bk w2 z 51 (ay i)∧Bk w2 g 169 [.int .i64 i.a,.int .i64 i.b,.int .i64 i.c]∧w2.ownsRow w.heap.size 3 1 v (nmK i k).length ((nmK i k).map (.int .i64))∧Below w.heap.size w w2:=
 ⟨h.bk.grown hg (fun e=>by injection e with e;exact jG h.itr h.bk e.symm),h.tr.grown hg (fun e=>by injection e with e;exact jG h.itr h.tr e.symm),h.own.kept hg (.inr (gm h.itr h.own)),h.hb.grown hg h.hb.size (fun q hq=>by injection hq with hq;have:=h.lo;omega)⟩
theorem sd (i:aX) {k:Nat} (hk:k < 3):([Value.int .i64 i.a,.int .i64 i.b,.int .i64 i.c]:List Value)[k]?=some (.int .i64 (dI i k)):=by
 have:k=0∨k=1∨k=2:=by omega
 rcases this with rfl | rfl | rfl <;> rfl
theorem mu {w:World} {it k:Nat} {s:ByteArray} (h:w.heap[it]?=some (.stringIter s k)):w.iterPos it=k:=by simp [World.iterPos,h]
set_option maxRecDepth 20000 in
set_option maxHeartbeats 1000000 in
theorem sf (w:World) (i:aX) (hL:cX w) (ho:ek i.op=true):Calls Tryz.prog 83 #[.agg (ay i).toArray] w fun e w'=>(∃v,e=.returned v∧w'.ownsRow w.heap.size 3 1 v (bi (toI i)).length ((bi (toI i)).map (.int .i64)))∧Below w.heap.size w w':=by
 obtain ⟨z,hz⟩:∃z,w.heap.size=z:=⟨_,rfl⟩;obtain ⟨w1,hw1⟩:∃w1,w.alloc (.cells (ay i).toArray 51)=w1:=⟨_,rfl⟩;have hk:Bk w1 z 51 (ay i):=hw1▸Bk.at_ w _ _ hz rfl;have hb:Below w.heap.size w w1:=hw1▸ai w _;have HW:=aa hw1;have HB:=aa hb;have HZ:=aa hz;have HL:=aa (hL.later hb);have HK:=aa hk;have HO:=aa ho;clear hk hw1 hz hb hL ho;go_enter Tryz.func83,Tryz.ntmps83;go_upto_region 1 with fail
 rw [HW.out,HZ.out];go_wp2_with (with_reducible refine aj rfl 51 _ rfl z rfl (ay i) 51 HK.out _ Tryz.underlying51 rfl (aW i) ?_)
 refine (nA w1 i).mono ?_;rintro e w2 ⟨rfl,hbn⟩;have HK2:=aa (HK.later hbn);have HB2:=aa (ab HB.out hbn);have HL2:=aa (HL.later hbn);clear hbn;go_wp2_with (with_reducible refine ah 169 _ _ rfl ?_)
 refine ak.go ?_;obtain ⟨g,hg⟩:∃q,w2.heap.size=q:=⟨_,rfl⟩;rw [hg];refine an 169 _ _ rfl g hg [.int .i64 i.a,.int .i64 i.b,.int .i64 i.c] rfl rfl rfl rfl (oL _ _ _) (by intro v hv;simp at hv;rcases hv with rfl | rfl | rfl <;> rfl) ?_;intro w3 hk hbn;have HT3:=aa hk;have HK3:=aa (HK2.later hbn);have HB3:=aa (ab HB2.out hbn);have HL3:=aa (HL2.later hbn);clear hk hbn hg;go_wp2_with (with_reducible refine aj rfl 51 _ rfl z rfl (ay i) 51 HK3.out _ Tryz.underlying51 rfl (aW i) ?_)
 refine (ml w3 i HL3.out).mono ?_;rintro e w4 ⟨rfl,hbn⟩;have HK4:=aa (HK3.later hbn);have HB4:=aa (ab HB3.out hbn);have HT4:=aa (HT3.later hbn);clear hbn;obtain ⟨s,hs⟩:∃s,fv i.op=s:=⟨_,rfl⟩;have HS:Hid (s.size≤3∧(∀(k:Nat) (h:k < s.size),(aU i.op)[k]?=some (gG s[k])∧s[k].toNat < 128)∧(aU i.op).length=s.size):=by subst hs;refine ⟨qj _,fun k h=>⟨wL HO.out h,Ak h⟩,?_⟩;rw [mj HO.out,List.length_map,Array.length_toList];rfl
 rw [hs];clear hs;obtain ⟨it,hit⟩:∃q,w4.heap.size=q:=⟨_,rfl⟩;obtain ⟨w5,hw5⟩:∃wa,w4.iter s 0=wa:=⟨_,rfl⟩;have hb5:Below w4.heap.size w4 w5:=hw5▸ai w4 _;have hi5:w5.heap[it]?=some (.stringIter s 0):=by rw [←hw5,←hit];exact World.iter_heap w4 s 0
 have HA5:Hid (yJ w w5 z g it i s 0 (.slice none 0 0)):=⟨HK4.later hb5,HT4.later hb5,hi5,World.ownsRow_nil _ _ _ _,ab HB4.out hb5,by have:=HB4.size;omega⟩;have HIT:=aa hit;have HW5:=aa hw5;clear hit hw5 hb5 hi5;go_upto_region 4 with fail
 rw [HIT.out,HW5.out];go_loopw [3,5,6,16,33] (fun v _ _ _ _ wr=>∃k:Nat,k≤s.size∧Hid (yJ w wr z g it i s k v)) (fun _ _ _ _ _ wr=>s.size - wr.iterPos it)
 case atStart=>exact ⟨0,Nat.zero_le _,HA5.out⟩
 case round=>
  obtain ⟨k,hk,hA⟩:=hrel;obtain ⟨A,C,rfl⟩:=aI hA.out.own;obtain ⟨n,hn⟩:∃n,(nmK i k).length=n:=⟨_,rfl⟩;rw [hn] at hA ⊢;have HNL:=aa hn;clear hn;by_cases hlt:k < s.size
  ·obtain ⟨hks,hsm⟩:=HS.out.2.1 k hlt;obtain ⟨w6,hnx,hi6,hg6⟩:=uA wr it s k 0 hA.out.itr hlt hsm;obtain ⟨hk6,ht6,ho6,hb6⟩:=hA.out.on hi6 hg6;rw [HNL.out] at ho6;have HI6:=aa hi6;have HK6:=aa hk6;have HT6:=aa ht6;have HO6:=aa ho6;have HB6:=aa hb6;have hk3:k < 3:=by have:=HS.out.1;omega
   have HLK:Hid (lwK i k=(decide ((aU i.op)[k]?=some 0) && (!(decide (k=0) && decide (i.op≠17)) && !(decide (k=1) && decide (i.op=15))))):=rfl;obtain ⟨b,hbb⟩:∃b,s[k]=b:=⟨_,rfl⟩;rw [hbb] at hks hnx;have HKS:=aa hks;have HPO:=aa (mu hA.out.itr);have HP6:=aa (mu hi6);have c0:w6.cell? ⟨z,0,none⟩=some (.int .i64 i.op):=hk6.cell 0;clear hi6 hk6 ht6 ho6 hb6 hks hsm hbb hg6;cases h9:((b.toNat:Int) != 119) with
   | true=>
    have hsk:lwK i k=false:=by
     rw [HLK.out,HKS.out];have:b≠119:=fun e=>by rw [e] at h9;revert h9;decide
     simp [gG,this];split <;> simp
    go_wp2_with fail
    go_roundw
    case rel=>exact ⟨k+1,by omega,HK6.out,HT6.out,HI6.out,by rw [mr hsk,HNL.out];exact HO6.out,HB6.out,hA.out.lo⟩
    case measure=>rw [HPO.out,HP6.out];omega
   | false=>
    have hb9:b=119:=by
     have:(b.toNat:Int)=119:=by simpa using h9
     exact UInt8.toNat_inj.1 (by show b.toNat=119;omega)
    cases h0:((k:Int) == 0) with
    | true=>
     cases h7:(i.op != 17) with
     | true=>
      have hsk:lwK i k=false:=by
       rw [HLK.out];have e0:k=0:=by have:=eq_of_beq h0;omega
       have e7:i.op≠17:=by simpa using h7
       simp [e0,e7]
      go_wp2_with fail
      go_roundw
      case rel=>exact ⟨k+1,by omega,HK6.out,HT6.out,HI6.out,by rw [mr hsk,HNL.out];exact HO6.out,HB6.out,hA.out.lo⟩
      case measure=>rw [HPO.out,HP6.out];omega
     | false=>
      have hsk:lwK i k=true:=by
       rw [HLK.out,HKS.out,hb9];have e0:k=0:=by have:=eq_of_beq h0;omega
       have e7:i.op=17:=by simpa using h7
       simp [e0,e7,gG]
      cases h1:((k:Int) == 1) with
      | true=>exact absurd (eq_of_beq h0) (by have:=eq_of_beq h1;omega)
      | false=>
       have hk3' : (k:Int) < 3:=by omega
       have cn:w6.cell? ⟨g,k,none⟩=some (.int .i64 (dI i k)):=by rw [show k=k by omega,HT6.cell];exact sd i hk3
       obtain ⟨y,hy⟩:∃y,dI i k=y:=⟨_,rfl⟩;rw [hy] at cn;have HYN:=aa hy;clear hy;go_wp2_with fail
       refine (fE w6 w6.heap.size A _ C (nmK i k) y (Sl.of_own HO6.out) (by have:=hU i k;have:=HNL.out;omega)).mono ?_;rintro e w' ⟨rfl,rfl⟩;cases hm:decide (y∈nmK i k) with
       | true=>
        have hm' : dI i k∈nmK i k:=by rw [HYN.out];simpa using hm
        go_wp2_with fail
        go_roundw
        case rel=>exact ⟨k+1,by omega,HK6.out,HT6.out,HI6.out,by rw [oN hsk hm',HNL.out];exact HO6.out,HB6.out,hA.out.lo⟩
        case measure=>rw [HPO.out,HP6.out];omega
       | false=>
        have hm' : dI i k ∉ nmK i k:=by rw [HYN.out];simpa using hm
        have HMM:=aa hm';clear hm hm';go_wp2_with (with_reducible refine a8 22 _ _ rfl ?_)
        refine ak.go ?_;refine ar (by rfl) 22 1 _ rfl #[(0,.int .i64 y)] (by simp [Act.eval,Act.put]) 3 [.int .i64 y] (fun w=>jF _ w) ?_;intro q7 w7 hq7 hb7 hbn;have HN7:=aa hb7;have HK7:=aa (HK6.later hbn);have HT7:=aa (HT6.later hbn);have HO7:=aa (az HO6.out hbn);have HI7:Hid (w7.heap[it]?=some (.stringIter s (k+1))):=(hbn.block it (Array.getElem?_eq_some_iff.1 HI6.out).1).trans HI6.out;have HB7:=aa (ab HB6.out hbn);clear hq7 hb7 hbn cn c0;obtain ⟨i0,hj,hj0,hj1,hj2⟩:=info_parts Tryz.infoI64;have hbw:w.heap.size≤w7.heap.size:=HB7.size;have hnl:n≤k:=by have:=hU i k;rw [HNL.out] at this;exact this
        go_wp2_with (at_builtin;refine bm _ rfl (.tmp 40) (.tmp 44) 22 rfl w.heap.size 3 i0 _ _ _ Tryz.underlying22 hj hj0 hj1 hj2 rfl (by decide) _ _ _ rfl HO7.out _ _ _ _ _ rfl (HN7.sl (n:=1) rfl (by omega) (fun _ _ h=>h)) (by intro u hu;simp at hu;subst hu;rfl) (by unfold maxLen;omega) (by omega) hbw ?_;intro v8 w8 hown hg hat;refine bA ?_)
        refine ak.go ?_;have HO8:Hid (w8.ownsRow w.heap.size 3 1 v8 (nmK i (k+1)).length ((nmK i (k+1)).map (.int .i64))):=by show World.ownsRow _ _ _ _ _ _ _;rw [oO hsk HMM.out,HYN.out,List.length_append,List.map_append,HNL.out];exact hown
        have HI8:Hid (w8.heap[it]?=some (.stringIter s (k+1))):=(hg.block it (Array.getElem?_eq_some_iff.1 HI7.out).1 (fun e=>gm HI7.out HO7.out e.symm)).trans HI7.out;have HK8:=aa (HK7.grown hg (Ne.symm (aP HO7.out HK7.out (by decide))));have HT8:=aa (HT7.grown hg (Ne.symm (aP HO7.out HT7.out (by decide))));have HB8:=aa (aB HB7.out HO7.out hg (Nat.le_refl _) hbw);have HP8:=aa (mu HI8.out);clear hown hg hat hj hj0 hj1 hj2 i0 hbw hnl;go_wp2_with fail
        go_roundw
        case rel=>exact ⟨k+1,by omega,HK8.out,HT8.out,HI8.out,HO8.out,HB8.out,hA.out.lo⟩
        case measure=>rw [HPO.out,HP8.out];omega
    | false=>
     have e0:k≠0:=by have:=ne_of_beq_false h0;omega
     cases h1:((k:Int) == 1) with
     | true=>
      have e1:k=1:=by have:=eq_of_beq h1;omega
      cases h5:(i.op == 15) with
      | true=>
       have hsk:lwK i k=false:=by
        rw [HLK.out];have e5:i.op=15:=by simpa using h5
        simp [e1,e5]
       go_wp2_with fail
       go_roundw
       case rel=>exact ⟨k+1,by omega,HK6.out,HT6.out,HI6.out,by rw [mr hsk,HNL.out];exact HO6.out,HB6.out,hA.out.lo⟩
       case measure=>rw [HPO.out,HP6.out];omega
      | false=>
       have hsk:lwK i k=true:=by
        rw [HLK.out,HKS.out,hb9];have e5:i.op≠15:=by simpa using h5
        simp [e1,e5,gG]
       have hk3' : (k:Int) < 3:=by omega
       have cn:w6.cell? ⟨g,1,none⟩=some (.int .i64 (dI i k)):=by rw [show 1=k by omega,HT6.cell];exact sd i hk3
       obtain ⟨y,hy⟩:∃y,dI i k=y:=⟨_,rfl⟩;rw [hy] at cn;have HYN:=aa hy;clear hy;go_wp2_with fail
       refine (fE w6 w6.heap.size A _ C (nmK i k) y (Sl.of_own HO6.out) (by have:=hU i k;have:=HNL.out;omega)).mono ?_;rintro e w' ⟨rfl,rfl⟩;cases hm:decide (y∈nmK i k) with
       | true=>
        have hm' : dI i k∈nmK i k:=by rw [HYN.out];simpa using hm
        go_wp2_with fail
        go_roundw
        case rel=>exact ⟨k+1,by omega,HK6.out,HT6.out,HI6.out,by rw [oN hsk hm',HNL.out];exact HO6.out,HB6.out,hA.out.lo⟩
        case measure=>rw [HPO.out,HP6.out];omega
       | false=>
        have hm' : dI i k ∉ nmK i k:=by rw [HYN.out];simpa using hm
        have HMM:=aa hm';clear hm hm';go_wp2_with (with_reducible refine a8 22 _ _ rfl ?_)
        refine ak.go ?_;refine ar (by rfl) 22 1 _ rfl #[(0,.int .i64 y)] (by simp [Act.eval,Act.put]) 3 [.int .i64 y] (fun w=>jF _ w) ?_;intro q7 w7 hq7 hb7 hbn;have HN7:=aa hb7;have HK7:=aa (HK6.later hbn);have HT7:=aa (HT6.later hbn);have HO7:=aa (az HO6.out hbn);have HI7:Hid (w7.heap[it]?=some (.stringIter s (k+1))):=(hbn.block it (Array.getElem?_eq_some_iff.1 HI6.out).1).trans HI6.out;have HB7:=aa (ab HB6.out hbn);clear hq7 hb7 hbn cn c0;obtain ⟨i0,hj,hj0,hj1,hj2⟩:=info_parts Tryz.infoI64;have hbw:w.heap.size≤w7.heap.size:=HB7.size;have hnl:n≤k:=by have:=hU i k;rw [HNL.out] at this;exact this
        go_wp2_with (at_builtin;refine bm _ rfl (.tmp 40) (.tmp 44) 22 rfl w.heap.size 3 i0 _ _ _ Tryz.underlying22 hj hj0 hj1 hj2 rfl (by decide) _ _ _ rfl HO7.out _ _ _ _ _ rfl (HN7.sl (n:=1) rfl (by omega) (fun _ _ h=>h)) (by intro u hu;simp at hu;subst hu;rfl) (by unfold maxLen;omega) (by omega) hbw ?_;intro v8 w8 hown hg hat;refine bA ?_)
        refine ak.go ?_;have HO8:Hid (w8.ownsRow w.heap.size 3 1 v8 (nmK i (k+1)).length ((nmK i (k+1)).map (.int .i64))):=by show World.ownsRow _ _ _ _ _ _ _;rw [oO hsk HMM.out,HYN.out,List.length_append,List.map_append,HNL.out];exact hown
        have HI8:Hid (w8.heap[it]?=some (.stringIter s (k+1))):=(hg.block it (Array.getElem?_eq_some_iff.1 HI7.out).1 (fun e=>gm HI7.out HO7.out e.symm)).trans HI7.out;have HK8:=aa (HK7.grown hg (Ne.symm (aP HO7.out HK7.out (by decide))));have HT8:=aa (HT7.grown hg (Ne.symm (aP HO7.out HT7.out (by decide))));have HB8:=aa (aB HB7.out HO7.out hg (Nat.le_refl _) hbw);have HP8:=aa (mu HI8.out);clear hown hg hat hj hj0 hj1 hj2 i0 hbw hnl;go_wp2_with fail
        go_roundw
        case rel=>exact ⟨k+1,by omega,HK8.out,HT8.out,HI8.out,HO8.out,HB8.out,hA.out.lo⟩
        case measure=>rw [HPO.out,HP8.out];omega
     | false=>
      have e1:k≠1:=by have:=ne_of_beq_false h1;omega
      have hsk:lwK i k=true:=by rw [HLK.out,HKS.out,hb9];simp [e0,e1,gG]
      have hk3' : (k:Int) < 3:=by omega
      have cn:w6.cell? ⟨g,k,none⟩=some (.int .i64 (dI i k)):=by rw [show k=k by omega,HT6.cell];exact sd i hk3
      obtain ⟨y,hy⟩:∃y,dI i k=y:=⟨_,rfl⟩;rw [hy] at cn;have HYN:=aa hy;clear hy;go_wp2_with fail
      refine (fE w6 w6.heap.size A _ C (nmK i k) y (Sl.of_own HO6.out) (by have:=hU i k;have:=HNL.out;omega)).mono ?_;rintro e w' ⟨rfl,rfl⟩;cases hm:decide (y∈nmK i k) with
      | true=>
       have hm' : dI i k∈nmK i k:=by rw [HYN.out];simpa using hm
       go_wp2_with fail
       go_roundw
       case rel=>exact ⟨k+1,by omega,HK6.out,HT6.out,HI6.out,by rw [oN hsk hm',HNL.out];exact HO6.out,HB6.out,hA.out.lo⟩
       case measure=>rw [HPO.out,HP6.out];omega
      | false=>
       have hm' : dI i k ∉ nmK i k:=by rw [HYN.out];simpa using hm
       have HMM:=aa hm';clear hm hm';go_wp2_with (with_reducible refine a8 22 _ _ rfl ?_)
       refine ak.go ?_;refine ar (by rfl) 22 1 _ rfl #[(0,.int .i64 y)] (by simp [Act.eval,Act.put]) 3 [.int .i64 y] (fun w=>jF _ w) ?_;intro q7 w7 hq7 hb7 hbn;have HN7:=aa hb7;have HK7:=aa (HK6.later hbn);have HT7:=aa (HT6.later hbn);have HO7:=aa (az HO6.out hbn);have HI7:Hid (w7.heap[it]?=some (.stringIter s (k+1))):=(hbn.block it (Array.getElem?_eq_some_iff.1 HI6.out).1).trans HI6.out;have HB7:=aa (ab HB6.out hbn);clear hq7 hb7 hbn cn c0;obtain ⟨i0,hj,hj0,hj1,hj2⟩:=info_parts Tryz.infoI64;have hbw:w.heap.size≤w7.heap.size:=HB7.size;have hnl:n≤k:=by have:=hU i k;rw [HNL.out] at this;exact this
       go_wp2_with (at_builtin;refine bm _ rfl (.tmp 40) (.tmp 44) 22 rfl w.heap.size 3 i0 _ _ _ Tryz.underlying22 hj hj0 hj1 hj2 rfl (by decide) _ _ _ rfl HO7.out _ _ _ _ _ rfl (HN7.sl (n:=1) rfl (by omega) (fun _ _ h=>h)) (by intro u hu;simp at hu;subst hu;rfl) (by unfold maxLen;omega) (by omega) hbw ?_;intro v8 w8 hown hg hat;refine bA ?_)
       refine ak.go ?_;have HO8:Hid (w8.ownsRow w.heap.size 3 1 v8 (nmK i (k+1)).length ((nmK i (k+1)).map (.int .i64))):=by show World.ownsRow _ _ _ _ _ _ _;rw [oO hsk HMM.out,HYN.out,List.length_append,List.map_append,HNL.out];exact hown
       have HI8:Hid (w8.heap[it]?=some (.stringIter s (k+1))):=(hg.block it (Array.getElem?_eq_some_iff.1 HI7.out).1 (fun e=>gm HI7.out HO7.out e.symm)).trans HI7.out;have HK8:=aa (HK7.grown hg (Ne.symm (aP HO7.out HK7.out (by decide))));have HT8:=aa (HT7.grown hg (Ne.symm (aP HO7.out HT7.out (by decide))));have HB8:=aa (aB HB7.out HO7.out hg (Nat.le_refl _) hbw);have HP8:=aa (mu HI8.out);clear hown hg hat hj hj0 hj1 hj2 i0 hbw hnl;go_wp2_with fail
       go_roundw
       case rel=>exact ⟨k+1,by omega,HK8.out,HT8.out,HI8.out,HO8.out,HB8.out,hA.out.lo⟩
       case measure=>rw [HPO.out,HP8.out];omega
  ·have hnx:=Lib.run_next_end_at (P:=Tryz.prog) wr it s k 0 hA.out.itr (by omega);go_wp2_with fail
   go_ret;have e1:k=s.size:=by omega
   have h2:nmK i k=bi (toI i):=by rw [e1,←HS.out.2.2,yI HO.out]
   rw [←h2,HNL.out];have h3:=hA.out.own;rw [HNL.out] at h3;exact ⟨⟨_,rfl,h3⟩,hA.out.hb⟩
end Go.Proofs.YtllbdpdnpaocnaaGreatDoor
