/- Part of the proof of WholeStep. -/
import Derived.Test.YtllbdpdnpaocnaaGreatDoorZBI
namespace Go.Proofs.YtllbdpdnpaocnaaGreatDoor
set_option linter.unusedSimpArgs false
set_option linter.unusedVariables false
set_option linter.constructorNameAsVariable false
open Go.RowKit
def j0:Array Value:=#[.int .u8 0,.int .u8 0,.int .u8 0,.int .u8 0,.int .u8 0,.int .u8 0,.int .u8 0,.int .u8 0]
theorem sA (N:Nat) (hN:N≤4096) (W:World):(Instr.makeSlice 52 (.int .i64 (N:Int)) (.int .i64 (N:Int))).run Tryz.prog W=.ok (.slice (some ⟨W.heap.size,0,none⟩) N N) (W.alloc (.cells (madeCells j0 (N*8)) 45)):=by obtain ⟨d0,hdi,hd0,hd1,hd2⟩:=info_parts Tryz.infoDg;have:=run_make (P:=Tryz.prog) W 52 45 d0 (.agg (dgA ap)) Tryz.underlying52 hdi hd0 .i64 .i64 N N (by omega) (Int.le_refl _) (by rw [hd2];omega) (by omega);rw [hd1,Int.toNat_natCast] at this;exact this
theorem te {w w' : World} {g L b bq N C q:Nat} {a0 a1 a2 a3 a4 a5 a6 a7:Int} (hc:w.cell? ⟨g,L,none⟩=some (.slice (some ⟨bq,0,none⟩) N C)) (hx:w.rangeAt b q ([a0,a1,a2,a3,a4,a5,a6,a7].map (Value.int .u8))) (hb:Below w.heap.size w w') (hg:g < w.heap.size) (hbl:b < w.heap.size):w'.cell? ⟨g,L,none⟩=some (.slice (some ⟨bq,0,none⟩) N C)∧w'.cell? ⟨b,q,none⟩=some (.int .u8 a0)∧w'.cell? ⟨b,q+1,none⟩=some (.int .u8 a1)∧w'.cell? ⟨b,q+2,none⟩=some (.int .u8 a2)∧w'.cell? ⟨b,q+3,none⟩=some (.int .u8 a3)∧w'.cell? ⟨b,q+4,none⟩=some (.int .u8 a4)∧w'.cell? ⟨b,q+5,none⟩=some (.int .u8 a5)∧w'.cell? ⟨b,q+6,none⟩=some (.int .u8 a6)∧w'.cell? ⟨b,q+7,none⟩=some (.int .u8 a7):=
 ⟨(hb.cell (p:=⟨g,L,none⟩) hg).trans hc,eX (fm hx hb hbl)⟩
theorem mJ {w w' : World} {g L b bq N C q g2:Nat} {a0 a1 a2 a3 a4 a5 a6 a7:Int} (hc:w.cell? ⟨g,L,none⟩=some (.slice (some ⟨bq,0,none⟩) N C)) (hx:w.rangeAt b q ([a0,a1,a2,a3,a4,a5,a6,a7].map (Value.int .u8))) (hb:w.grownBy w' (some g2)) (hg:g < w.heap.size) (hbl:b < w.heap.size) (hn1:g≠g2) (hn2:b≠g2):w'.cell? ⟨g,L,none⟩=some (.slice (some ⟨bq,0,none⟩) N C)∧w'.cell? ⟨b,q,none⟩=some (.int .u8 a0)∧w'.cell? ⟨b,q+1,none⟩=some (.int .u8 a1)∧w'.cell? ⟨b,q+2,none⟩=some (.int .u8 a2)∧w'.cell? ⟨b,q+3,none⟩=some (.int .u8 a3)∧w'.cell? ⟨b,q+4,none⟩=some (.int .u8 a4)∧w'.cell? ⟨b,q+5,none⟩=some (.int .u8 a5)∧w'.cell? ⟨b,q+6,none⟩=some (.int .u8 a6)∧w'.cell? ⟨b,q+7,none⟩=some (.int .u8 a7):=
 ⟨(World.cell?_of_block (a:=⟨g,L,none⟩) (hb.block g hg (by intro e;injection e with e;exact hn1 e))).trans hc,eX (jw hx hb hbl hn2)⟩
theorem Bl (w:World) (a:List Int) (ha:aO a):Calls Tryz.prog 132 #[.agg (dgA a)] w fun e w'=>∃o0 o1 o2 o3 o4 o5 o6 o7:Int,e=.returned (.agg #[.int .u8 o0,.int .u8 o1,.int .u8 o2,.int .u8 o3,.int .u8 o4,.int .u8 o5,.int .u8 o6,.int .u8 o7])∧Hid (fR a=[o0,o1,o2,o3,o4,o5,o6,o7])∧Below w.heap.size w w':=by obtain ⟨o0,o1,o2,o3,o4,o5,o6,o7,ho⟩:=dQ (fR a) (gM _).len;refine (sw w a ha).mono ?_;rintro e w' ⟨rfl,hb⟩;exact ⟨o0,o1,o2,o3,o4,o5,o6,o7,by rw [ho];rfl,ho,hb⟩
theorem tf {w0 wr:World} {hi h L N2:Nat} {T:Tr} {ls:List (List Int)} {ns:Nat→List (List Int)} (t:aY wr w0.heap.size hi T h L ls ns) (hL:L≤h) (hN:2 ^ (h - L)=N2) (hb:Below w0.heap.size w0 wr):aY (((wr.setCell ⟨T.g,1+L,none⟩ (.slice (some ⟨wr.heap.size,0,none⟩) N2 N2)).alloc (.cells (madeCells j0 (N2*8)) 45)).drew) w0.heap.size (wr.heap.size+1) (T.more L wr.heap.size N2) h (L+1) ls (mI ns L (List.replicate N2 ap))∧Below w0.heap.size w0 (((wr.setCell ⟨T.g,1+L,none⟩ (.slice (some ⟨wr.heap.size,0,none⟩) N2 N2)).alloc (.cells (madeCells j0 (N2*8)) 45)).drew):=by
 subst hN;have hrw:∀W,Bk W wr.heap.size 45 (aJ (List.replicate (2 ^ (h - L)) ap))→cV W wr.heap.size (2 ^ (h - L)) (List.replicate (2 ^ (h - L)) ap):=fun W hW=>by have:=cV.all (jZ _) hW;rw [List.length_replicate] at this;exact this
 refine ⟨t.grow hL wr.heap.size (2 ^ (h - L)) t.hih _ (jZ _) (by simp) ((Bk.set_ t.row (1+L) _).alloc _).drew (hrw _ (Bk.at_ _ _ (madeCells j0 (_*8)) (by simp [World.setCell]) (yY _)).drew) fun j hj hne=>?_,?_⟩
 ·show (World.alloc _ _).heap[j]?=_;rw [Below.heap_alloc _ _ _ (by simpa [World.setCell] using hj)];exact Below.heap_setCell wr ⟨T.g,1+L,none⟩ _ j hne
 ·exact (((hb.setCell (p:=⟨T.g,1+L,none⟩) t.blo.1 _)).alloc (by have:=hb.size;simpa [World.setCell] using this) _).drew
set_option maxRecDepth 20000 in
set_option maxHeartbeats 1000000 in
theorem xP (w:World) (A:Option Addr) (n c:Nat) (ls:List (List Int)) (ho:cY ls) (hs:Sl w w.heap.size 8 A n (aJ ls)) (hok:1≤n∧n≤4096):Calls Tryz.prog 71 #[.slice A n c] w fun e w'=>∃(T:Tr) (hi:Nat) (ns:Nat→List (List Int)),e=.returned (.tuple #[.pointer (some ⟨T.g,0,none⟩),.int .i64 0])∧aY w' w.heap.size hi T (bB n) (bB n+1) ls ns∧(∀j,j≤bB n→ns j=eh ls (bB n) j)∧Below w.heap.size w w':=by
 have hlen:=hs.dgs ho;have hn:=hs.le;have HHT:=aa (fun w=>gg n w);have HV:=aa (show dn n=bB n by rw [dn,if_neg (by omega)]);have h12:=mU hok.2;have hup:=mV hok.2;rw [HV.out] at HHT;obtain ⟨h,hh⟩:∃h,bB n=h:=⟨_,rfl⟩;rw [hh] at HHT h12 hup ⊢;obtain ⟨hsh,hpl⟩:=sy h h12;obtain ⟨N0,hN0⟩:∃N0,2 ^ h=N0:=⟨_,rfl⟩;rw [hN0] at hsh hpl;have hneg:decide ((h:Int) < 0)=false:=by simp <;> omega
 have HS:=aa hs;have HO:=aa ho;have HL:=aa hlen;have HN0:=aa hN0;have HUP:=aa hup;clear hs ho hlen hh HV hN0 hup;go_enter Tryz.func71,Tryz.ntmps71;go_wp2_with (go_at_call 43;refine (HHT.out _).mono ?_;rintro e w2 ⟨rfl,rfl⟩)
 refine (vh w A n c ls HO.out HS.out (by omega)).mono ?_;rintro e w2 ⟨⟨v,rfl,hown⟩,hb2⟩;obtain ⟨rfl,h0,_⟩ | ⟨bl,cl,ys,rfl,hbg,hbk,hcl,hcm,hyl,hyt⟩:=dA hown
 ·omega
 have HB2:=aa hb2;have HBK:=aa hbk;have HLV:Hid (cl≤9223372036854775807∧w.heap.size≤bl∧n≤cl∧ys.length=cl*8∧ys.take (n*8)=aJ ls):=⟨hcm,hbg,hcl,hyl,hyt⟩;clear hown hb2 hbk hcm hbg hcl hyl hyt;go_upto_region 5 with fail
 obtain ⟨w3,hw3⟩:∃w3,w2.alloc (.cells #[.slice (some ⟨bl,0,none⟩) n cl,.slice none 0 0,.slice none 0 0,.slice none 0 0,.slice none 0 0,.slice none 0 0,.slice none 0 0,.slice none 0 0,.slice none 0 0,.slice none 0 0,.slice none 0 0,.slice none 0 0,.slice none 0 0,.slice none 0 0] 147)=w3:=⟨_,rfl⟩;obtain ⟨g,hg⟩:∃g,w2.heap.size=g:=⟨_,rfl⟩;have hb3:Below w.heap.size w w3:=hw3▸HB2.trans ((ai w2 _).mono HB2.size);have t0:aY w3 w.heap.size (g+1) ⟨g,bl,cl,fun _=>0,fun _=>0⟩ h 0 ls (fun _=>[]):=by have hL:=HL.out;have hbl:bl < w2.heap.size:=Bk.lt HBK.out;refine ⟨?_,HO.out,⟨ys,hw3▸Bk.alloc HBK.out _,HLV.out.2.2.2.1,by rw [hL];exact HLV.out.2.2.2.2⟩,⟨by rw [hL];omega,by rw [hL];exact HLV.out.2.2.1,HLV.out.1⟩,by rw [hL];exact HUP.out,fun l hl=>absurd hl (by omega),⟨by omega,h12⟩,fun l hl=>absurd hl (by omega),fun l _ hl=>absurd hl (by omega),⟨by rw [←hg];exact HB2.size,HLV.out.2.1,fun l hl=>absurd hl (by omega)⟩,⟨by show g < _;omega,by show bl < _;omega,fun l hl=>absurd hl (by omega)⟩,by rw [←hw3,←hg];simp⟩;rw [←hw3,hL];exact Bk.at_ _ _ _ hg rfl
 have hg3:w3.heap.size=g+1:=by rw [←hw3,←hg];simp
 have HT0:=aa t0;have HB3:=aa hb3;have HG3:=aa hg3;have c1:w3.cell? ⟨g,1,none⟩=some (.slice none 0 0):=by rw [t0.row.cell];rfl
 have f1:=Bk.frozen t0.row 1;have l1:=Bk.lt t0.row;simp only at f1 l1;have ne1:¬g=w3.heap.size:=by omega
 have hsh' : IntKind.i64.wrap (2 ^ h)=(N0:Int):=by rw [IntWalk.i64_left];exact hsh
 have hplI:(N0:Int)≤4096:=by omega
 rw [hg,hw3];clear hw3 t0 hb3 HB2 HBK HLV hg hg3;have hmk:=sA N0 hpl;go_region;obtain ⟨w4,hw4⟩:∃w4,((w3.setCell ⟨g,1,none⟩ (.slice (some ⟨w3.heap.size,0,none⟩) N0 N0)).alloc (.cells (madeCells j0 (N0*8)) 45)).drew=w4:=⟨_,rfl⟩;have r4:Bk w4 g 147 ((dK ⟨g,bl,cl,fun _=>0,fun _=>0⟩ ls.length h 0).set 1 (.slice (some ⟨w3.heap.size,0,none⟩) N0 N0)):=hw4▸((Bk.set_ HT0.row 1 _).alloc _).drew;have b4:Bk w4 w3.heap.size 45 (aJ (List.replicate N0 ap)):=hw4▸(Bk.at_ _ _ (madeCells j0 (N0*8)) (by simp [World.setCell]) (yY N0)).drew;have k4:∀j,j < w3.heap.size→j≠g→w4.heap[j]?=w3.heap[j]?:=fun j hj hne=>by rw [←hw4];show (World.alloc _ _).heap[j]?=_;rw [Below.heap_alloc _ _ _ (by simpa [World.setCell] using hj)];exact Below.heap_setCell w3 ⟨g,1,none⟩ _ j hne
 have hb4:Below w.heap.size w w4:=by rw [←hw4];exact (((HB3.setCell (p:=⟨g,1,none⟩) (by have:=HT0.blo.1;exact this) _)).alloc (by have:=HB3.size;simpa [World.setCell] using this) _).drew
 have t1:=HT0.grow (w':=w4) (by omega) w3.heap.size N0 (by rw [HG3.out];omega) (List.replicate N0 ap) (jZ _) (by rw [Nat.sub_zero,HN0.out];simp) (by rw [Nat.sub_zero,HN0.out];exact r4) (by have:=cV.all (jZ N0) b4;rw [List.length_replicate] at this;exact this) k4;obtain ⟨T1,hT1⟩:∃T1,(Tr.more ⟨g,bl,cl,fun _=>0,fun _=>0⟩ 0 w3.heap.size N0)=T1:=⟨_,rfl⟩;have hTg:T1.g=g:=by rw [←hT1];rfl
 rw [hT1] at t1;rw [hw4];subst hTg;have HT1:Hid (∃hi ns,aY w4 w.heap.size hi T1 h 1 ls ns∧ns 0=fB ls h 0 0):=⟨_,_,t1,by rw [iS,lE,Nat.sub_zero,HN0.out]⟩;have HB4:=aa hb4;clear hw4 r4 b4 k4 hb4 t1 hT1 HT0 HB3 HG3 c1 f1 l1 ne1 hmk;go_wp2_with fail
 refine (lq _ ap fQ _ (by decide)).mono ?_;rintro e w5 ⟨rfl,hb5⟩;rw [show ge ap (cd { data:=#[110,111,110,101] })=gx from rfl];have HB5:=aa (HB4.trans (hb5.mono HB4.size));have HT5:Hid (∃hi ns,aY w5 w.heap.size hi T1 h 1 ls ns∧ns 0=fB ls h 0 0):=by obtain ⟨hi,ns,t,e⟩:=HT1.out;exact ⟨hi,ns,t.later hb5,e⟩
 clear hb5 HT1 HB4;have HI:=bM gx jV;have HOK:=aa (dk gx);have HSZ:Hid ((dgA ap).size=(dgA gx).size):=by show _=_;rw [bc,bc,jV.len];rfl
 have s1:bU ((w5.alloc (.cells (dgA ap) 45)).setRow w5.heap.size (dgA gx)) w5.heap.size 45 gx:=bU.row (cM w5 _ ap) _;have hbb:Below w5.heap.size w5 ((w5.alloc (.cells (dgA ap) 45)).setRow w5.heap.size (dgA gx)):=below_setRow (ai w5 _) (Nat.le_refl _) _;obtain ⟨w6,hw6⟩:∃w6,(w5.alloc (.cells (dgA ap) 45)).setRow w5.heap.size (dgA gx)=w6:=⟨_,rfl⟩;rw [hw6] at s1 hbb;have HW6:=aa hw6;have HGN:=aa s1;have HB6:=aa (HB5.trans (hbb.mono HB5.size));have HT6:Hid (∃hi ns,aY w6 w.heap.size hi T1 h 1 ls ns∧ns 0=fB ls h 0 0):=by obtain ⟨hi,ns,t,e⟩:=HT5.out;exact ⟨hi,ns,t.later hbb,e⟩
 have c6:w6.cell? ⟨T1.g,1,none⟩=some (.slice (some ⟨T1.bn 0,0,none⟩) N0 (T1.cn 0)):=by obtain ⟨hi,ns,t,e⟩:=HT6.out;have:=t.ncell (l:=0) (by omega);rw [Nat.sub_zero,HN0.out] at this;exact this
 have hgn:w.heap.size≤w5.heap.size:=HB5.size;have HGN5:Hid (T1.bn 0 < w5.heap.size∧T1.g < w5.heap.size):=by obtain ⟨hi,ns,t,e⟩:=HT5.out;exact ⟨(t.nv 0 (by omega)).1.lt,Bk.lt t.row⟩
 clear s1 hbb hw6 HT5 HB5;go_wp2_with (refine wpList_store_row rfl 45 _ _ rfl w5.heap.size (dgA gx) rfl rfl 45 (dgA ap) (cM w5 _ ap).heap HI.out HSZ.out HOK.out ?_;rw [fj,show List.replicate 8 (0:Int)=ap from rfl,HW6.out])
 obtain ⟨gn,hgn'⟩:∃gn,w5.heap.size=gn:=⟨_,rfl⟩;rw [hgn'] at HGN hgn HGN5 ⊢;clear HI HOK HSZ HW6 hgn';go_loopw [34] (fun is wr=>∃(j hi:Nat) (ns:Nat→List (List Int)),j≤N0∧is=.int .i64 j∧Hid (aY wr w.heap.size hi T1 h 1 ls ns)∧Hid (ns 0=fB ls h 0 j)∧Hid (bU wr gn 45 gx)∧Hid (Below w.heap.size w wr)) (fun is _=>N0 - (intOf is).toNat)
 case atStart=>obtain ⟨hi,ns,t,e⟩:=HT6.out;exact ⟨0,hi,ns,by omega,rfl,t,e,HGN.out,HB6.out⟩
 case round=>
  obtain ⟨j,hi,ns,hj,rfl,HT,HNS,HGL,HB⟩:=hrel;clear c6;have hcell:wr.cell? ⟨T1.g,1,none⟩=some (.slice (some ⟨T1.bn 0,0,none⟩) N0 (T1.cn 0)):=by have:=HT.ncell (l:=0) (by omega);rw [Nat.sub_zero,HN0.out] at this;exact this
  by_cases hlt:j < N0
  ·have hj1:(j:Int) < N0:=by omega
   have hj0:(0:Int)≤j:=by omega
   have hpj:j < 2 ^ (h - 0):=by rw [Nat.sub_zero,HN0.out];exact hlt
   have h1m:0 < 1:=by omega
   obtain ⟨⟨ys0,hbk0,hyl0,hyt0⟩,hnl0,hno0⟩:=HT.nv 0 h1m;have HY0:=aa (show ys0.length=T1.cn 0*8∧ys0.take ((ns 0).length*8)=aJ (ns 0) from ⟨hyl0,hyt0⟩);clear hyl0 hyt0;obtain ⟨zz,hz⟩:∃zz,(ns 0)[j]?=some zz:=⟨(ns 0)[j]'(by rw [hnl0];exact hpj),List.getElem?_eq_getElem _⟩;have hzo:=hno0 zz (List.mem_of_getElem? hz);have hrz:=jO (HT.nsl h1m) hno0 hz;rw [Nat.zero_add] at hrz;obtain ⟨z0,z1,z2,z3,z4,z5,z6,z7,rfl⟩:=dQ zz hzo.len;have hgl:T1.g < wr.heap.size:=Bk.lt HT.row;have hbl0:T1.bn 0 < wr.heap.size:=Bk.lt hbk0;have hne2:T1.g≠T1.bn 0:=Bk.ne_ HT.row hbk0 (by decide);have hlo0:=HT.blo.2.2 0 h1m;have HRZ:=aa hrz;have HBK0:=aa hbk0;have HNO0:=aa hno0;have hnj:=fS ls j;obtain ⟨b2',hb2'⟩:∃b2',T1.bn 0=b2':=⟨_,rfl⟩;obtain ⟨C0,hC0⟩:∃C0,T1.cn 0=C0:=⟨_,rfl⟩;rw [hC0] at hcell;have HC0:=aa hC0;rw [hb2'] at hcell hbl0 hne2 hlo0 HRZ HBK0;have HB2':=aa hb2';obtain ⟨nl,hnl⟩:∃nl,cQ ls 0 j=nl:=⟨_,rfl⟩;have HST:∀w' : World,wr.grownBy w' (some b2')→cV w' b2' (T1.cn 0) ((ns 0).set j nl)→aY w' w.heap.size hi T1 h 1 ls (mI ns 0 ((ns 0).set j nl))∧mI ns 0 ((ns 0).set j nl) 0=fB ls h 0 (j+1):=fun w' hg hb=>by refine ⟨HT.level h1m (by rw [HB2'.out];exact hg) _ (vj HNO0.out _ (by rw [←hnl];exact jW _ _ _)) (by rw [List.length_set];exact hnl0) (by rw [HB2'.out];exact hb),?_⟩;rw [iS,HNS.out,←hnl,m7 _ _ _ _ hpj]
   have HSTEP:=aa HST;have hlj:j < (ns 0).length:=by rw [hnl0];exact hpj
   clear hz hzo hrz hbk0 hno0 hb2' hC0 HST hnl0 hpj h1m;by_cases hleaf:j < n
   ·have hl1:(j:Int) < n:=by omega
    obtain ⟨b,o,rfl,hbb,_⟩:=HS.spot (by omega) (by omega);obtain ⟨x,hx⟩:∃x,ls[j]?=some x:=⟨ls[j]'(by rw [HL.out];exact hleaf),List.getElem?_eq_getElem _⟩;have hxo:=HO.out x (List.mem_of_getElem? hx);have hrx:=jO (HS.below HB.out) HO.out hx;rw [hx,mX,hnl] at hnj;obtain ⟨a0,a1,a2,a3,a4,a5,a6,a7,rfl⟩:=dQ x hxo.len;have HX:=aa hxo;have HRX:=aa hrx;have HNJ:=aa hnj;have hbw:b < wr.heap.size:=by have:=HB.size;omega
    have hneb:b≠b2':=by omega
    have hS:wr.cell? ⟨T1.g,1,none⟩=some (.slice (some ⟨b2',0,none⟩) N0 C0)∧wr.cell? ⟨b,o+j*8,none⟩=some (.int .u8 a0)∧wr.cell? ⟨b,o+j*8+1,none⟩=some (.int .u8 a1)∧wr.cell? ⟨b,o+j*8+2,none⟩=some (.int .u8 a2)∧wr.cell? ⟨b,o+j*8+3,none⟩=some (.int .u8 a3)∧wr.cell? ⟨b,o+j*8+4,none⟩=some (.int .u8 a4)∧wr.cell? ⟨b,o+j*8+5,none⟩=some (.int .u8 a5)∧wr.cell? ⟨b,o+j*8+6,none⟩=some (.int .u8 a6)∧wr.cell? ⟨b,o+j*8+7,none⟩=some (.int .u8 a7):=⟨hcell,eX hrx⟩;clear hx hxo hrx hnj hnl;have HCELL:=aa hcell;go_wp2_with fail
    go_region_held3 (fun w'=>w'.cell? ⟨T1.g,1,none⟩=some (.slice (some ⟨b2',0,none⟩) N0 C0)∧w'.cell? ⟨b,o+j*8,none⟩=some (.int .u8 a0)∧w'.cell? ⟨b,o+j*8+1,none⟩=some (.int .u8 a1)∧w'.cell? ⟨b,o+j*8+2,none⟩=some (.int .u8 a2)∧w'.cell? ⟨b,o+j*8+3,none⟩=some (.int .u8 a3)∧w'.cell? ⟨b,o+j*8+4,none⟩=some (.int .u8 a4)∧w'.cell? ⟨b,o+j*8+5,none⟩=some (.int .u8 a5)∧w'.cell? ⟨b,o+j*8+6,none⟩=some (.int .u8 a6)∧w'.cell? ⟨b,o+j*8+7,none⟩=some (.int .u8 a7)) (first | (with_reducible exact hS3) | (with_reducible exact hS2) | (with_reducible exact hS) | go_keep)
     (first | (go_at_call 132;refine (Bl _ [a0,a1,a2,a3,a4,a5,a6,a7] HX.out).mono ?_;rintro e w5 ⟨o0,o1,o2,o3,o4,o5,o6,o7,rfl,ho,hb5⟩;have E5:Hid (Below wr.heap.size wr w5):=((ac wr _ 1).trans hb5);have hS2:=te HCELL.out HRX.out E5.out hgl hbw;have hS3:=mJ HCELL.out HRX.out (eq (dm (bO wr b2') E5.out) (j*8) o0 o1 o2 o3 o4 o5 o6 o7) hgl hbw hne2 hneb;obtain ⟨zc0,zc1,zc2,zc3,zc4,zc5,zc6,zc7⟩:=eX (fm HRZ.out E5.out hbl0);have zf:=Bk.frozen (HBK0.later E5.out);have zl:=Bk.lt (HBK0.later E5.out);clear hb5))
    have hgr:=eq (dm (bO wr b2') E5.out) (j*8) o0 o1 o2 o3 o4 o5 o6 o7;have hbk:=Bk.put8at (HBK0.later E5.out) (j*8) o0 o1 o2 o3 o4 o5 o6 o7;have hbr:=nT HY0.out.1 HY0.out.2 HNO0.out hlj o0 o1 o2 o3 o4 o5 o6 o7 hbk;rw [←ho.out,←HNJ.out] at hbr;have hst:=HSTEP.out _ hgr hbr;have hgnl:=Bk.grown (Bk.later HGL.out E5.out) (eq (bO _ b2') (j*8) o0 o1 o2 o3 o4 o5 o6 o7) (by intro e;injection e with e;have:=HGN5.out.1;rw [HB2'.out] at this;omega);have hbel:=ag (g:=b2') HB.out hgr HB.size hlo0;have HST:=aa hst;have HGNL:=aa hgnl;have HBEL:=aa hbel;clear hgr hbk hbr hst hgnl hbel hS hS2 hS3 zc0 zc1 zc2 zc3 zc4 zc5 zc6 zc7 zf zl;go_wp2_with fail
    go_roundw
    case rel=>exact ⟨j+1,hi,_,by omega,by go_num,HST.out.1,HST.out.2,HGNL.out,HBEL.out⟩
    case measure=>simp [intOf];omega
   ·have hl1:decide ((j:Int) < n)=false:=by simp <;> omega
    have hl2:decide (j < n)=false:=by simp <;> omega
    rw [List.getElem?_eq_none (by rw [HL.out];omega),mX,hnl] at hnj;obtain ⟨q0,q1,q2,q3,q4,q5,q6,q7,hlk⟩:=dQ gx jV.len;have HLK:=aa hlk;have HNJ:=aa hnj;have hgl8:=HGL.out;rw [hlk] at hgl8;obtain ⟨c0,c1,c2,c3,c4,c5,c6,c7⟩:=jr hgl8;obtain ⟨zc0,zc1,zc2,zc3,zc4,zc5,zc6,zc7⟩:=eX HRZ.out;have zf:=Bk.frozen HBK0.out;have zl:=Bk.lt HBK0.out;have hgnb:¬gn=b2':=by have:=HGN5.out.1;rw [HB2'.out] at this;omega
    clear hlk hnj hgl8 hnl;go_wp2_with fail
    go_region;have hgr:=mS (eq (bO wr b2') (j*8) q0 q1 q2 q3 q4 q5 q6 q7);have hbk:=(Bk.put8at HBK0.out (j*8) q0 q1 q2 q3 q4 q5 q6 q7).drew;have hbr:=nT HY0.out.1 HY0.out.2 HNO0.out hlj q0 q1 q2 q3 q4 q5 q6 q7 hbk;rw [←HLK.out,←HNJ.out] at hbr;have hst:=HSTEP.out _ hgr hbr;have hgnl:=Bk.grown HGL.out hgr (by intro e;injection e with e;exact hgnb e);have hbel:=ag (g:=b2') HB.out hgr HB.size hlo0;have HST:=aa hst;have HGNL:=aa hgnl;have HBEL:=aa hbel;clear hgr hbk hbr hst hgnl hbel zc0 zc1 zc2 zc3 zc4 zc5 zc6 zc7 zf zl c0 c1 c2 c3 c4 c5 c6 c7;go_wp2_with fail
    go_roundw
    case rel=>exact ⟨j+1,hi,_,by omega,by go_num,HST.out.1,HST.out.2,HGNL.out,HBEL.out⟩
    case measure=>simp [intOf];omega
  ·obtain rfl:j=N0:=by omega
   have hns0:=HNS.out;have e0:fB ls h 0 j=eh ls h 0:=by have:=m6 ls h 0;rw [Nat.sub_zero,HN0.out] at this;exact this
   rw [e0] at hns0;obtain ⟨g,hg⟩:∃g,T1.g=g:=⟨_,rfl⟩;have HT7:Hid (∃T hi ns,aY wr w.heap.size hi T h 1 ls ns∧(∀j,j≤0→ns j=eh ls h j)∧T.g=g):=⟨T1,hi,ns,HT.out,fun q hq=>by
    rw [show q=0 by omega];exact hns0,hg⟩
   have HB7:=aa HB.out;rw [hg] at hcell;go_wp2_with fail
   rw [hg];clear hns0 e0 hg HT HNS HGL HGN5 HGN HT6 HB6 hcell hsh hsh' HB;go_loopw [63] (fun is wr=>∃(lv hi:Nat) (T:Tr) (ns:Nat→List (List Int)),lv≤h∧is=.int .i64 lv∧Hid (aY wr w.heap.size hi T h (lv+1) ls ns)∧Hid (∀j,j≤lv→ns j=eh ls h j)∧Hid (T.g=g)∧Hid (Below w.heap.size w wr)) (fun is _=>h - (intOf is).toNat)
   case atStart=>obtain ⟨T,hi,ns,t,e,eg⟩:=HT7.out;exact ⟨0,hi,T,ns,by omega,rfl,t,e,eg,HB7.out⟩
   case round=>
    obtain ⟨lv,hi2,T,ns2,hlv,rfl,HT,HNS,HTG,HB⟩:=hrel;by_cases hlt2:lv < h
    ·have hlv1:(lv:Int) < h:=by omega
     have hc1:=HT.ncell (l:=lv) (by omega);have hp1:=HT.pow lv;have hp2:=HT.pow (lv+1);have hpd:2 ^ (h - lv)=2*2 ^ (h - (lv+1)):=by rw [show h - lv=(h - (lv+1))+1 by omega,Nat.pow_succ];omega
     have hrow:=HT.row;rw [HTG.out] at hc1 hrow;obtain ⟨L,hL⟩:∃L,lv+1=L:=⟨_,rfl⟩;have hc2:wr.cell? ⟨g,1+L,none⟩=some (.slice none 0 0):=by rw [hrow.cell,iv _ _ _ _ _ (by omega),lB,if_neg (by omega)]
     have f2:=Bk.frozen hrow (1+L);have l2:=Bk.lt hrow;obtain ⟨N1,hN1⟩:∃N1,2 ^ (h - lv)=N1:=⟨_,rfl⟩;rw [hL] at hp2 hpd;obtain ⟨N2,hN2⟩:∃N2,2 ^ (h - L)=N2:=⟨_,rfl⟩;rw [hN1] at hc1 hp1 hpd;rw [hN2] at hp2 hpd;have hdv:(N1:Int) / 2=(N2:Int):=by omega
     have hmk2:=sA N2 hp2;have e1:(lv:Int)+1=(L:Int):=by omega
     have w1:IntKind.i64.wrap ((lv:Int)+1)=(L:Int):=by rw [e1];exact IntWalk.i64_in _ (by omega)
     have w2' : IntKind.i64.wrap (L:Int)=(L:Int):=IntWalk.i64_in _ (by omega);have w3' : IntKind.i64.wrap (N2:Int)=(N2:Int):=IntWalk.i64_in _ (by omega);have i1:(0:Int)≤(lv:Int):=by omega
     have i2:(lv:Int) < 13:=by omega
     have i3:(0:Int)≤(L:Int):=by omega
     have i4:(L:Int) < 13:=by omega
     have ne2:¬g=wr.heap.size:=by omega
     have HL':=aa hL;have HN2:=aa hN2;have HROW:=aa hrow;clear hN1 hN2 hpd hL hrow;go_wp2_with fail
     go_region;have hgs:=tf (N2:=N2) (L:=L) (by rw [←HL'.out];exact HT.out) (by have:=HL'.out;omega) HN2.out HB.out;rw [HTG.out] at hgs;obtain ⟨w8,hw8⟩:∃w8,((wr.setCell ⟨g,1+L,none⟩ (.slice (some ⟨wr.heap.size,0,none⟩) N2 N2)).alloc (.cells (madeCells j0 (N2*8)) 45)).drew=w8:=⟨_,rfl⟩;rw [hw8] at hgs;rw [hw8];have HT8:Hid (∃ns,aY w8 w.heap.size (wr.heap.size+1) (T.more L wr.heap.size N2) h (L+1) ls ns∧(∀j,j≤lv→ns j=eh ls h j)∧ns L=fB ls h L 0):=⟨_,hgs.1,fun q hq=>(jY _ _ (by have:=HL'.out;omega)).trans (HNS.out q hq),by rw [iS,lE,HN2.out]⟩;have HB8:=aa hgs.2;obtain ⟨T2,hT2⟩:∃T2,T.more L wr.heap.size N2=T2:=⟨_,rfl⟩;obtain ⟨hi3,hhi3⟩:∃hi3,wr.heap.size+1=hi3:=⟨_,rfl⟩;have HTG2:Hid (T2.g=g):=by rw [←hT2];exact HTG.out
     rw [hT2,hhi3] at HT8;have c8:w8.cell? ⟨g,1+L,none⟩=some (.slice (some ⟨T2.bn L,0,none⟩) N2 (T2.cn L)):=by obtain ⟨ns,t,_⟩:=HT8.out;have:=t.ncell (l:=L) (by omega);rw [HN2.out,HTG2.out] at this;exact this
     clear hgs hw8 hT2 hhi3 hc1 hc2 f2 l2 hmk2 ne2 HROW HT HNS HTG HB;go_wp2_with fail
     go_loopw [89] (fun is wt=>∃(k:Nat) (ns:Nat→List (List Int)),k≤N2∧is=.int .i64 k∧Hid (aY wt w.heap.size hi3 T2 h (L+1) ls ns)∧Hid (∀j,j≤lv→ns j=eh ls h j)∧Hid (ns L=fB ls h L k)∧Hid (Below w.heap.size w wt)) (fun is _=>N2 - (intOf is).toNat)
     case atStart=>obtain ⟨ns,t,e1,e2⟩:=HT8.out;exact ⟨0,ns,by omega,rfl,t,e1,e2,HB8.out⟩
     case round=>
      obtain ⟨k,ns3,hk,rfl,HT,HNS,HNL,HB⟩:=hrel;by_cases hlt3:k < N2
      ·have hk1:(k:Int) < N2:=by omega
       have hkp:k < 2 ^ (h - L):=by rw [HN2.out];exact hlt3
       have hk2:2*k+1 < 2 ^ (h - lv):=by
        have e:2 ^ (h - lv)=2*2 ^ (h - L):=by rw [show h - lv=(h - L)+1 by have:=HL'.out;omega,Nat.pow_succ];omega
        omega
       have hj:=tc wr w.heap.size hi3 T2 h (L+1) ls ns3 HT.out lv k (cQ ls lv (2*k)) (cQ ls lv (2*k+1)) (by have:=HL'.out;omega) (by rw [HL'.out];exact hkp) (by rw [HNS.out lv (Nat.le_refl _)];exact fU _ _ _ _ (by omega)) (by rw [HNS.out lv (Nat.le_refl _)];exact fU _ _ _ _ hk2);rw [←fT,HL'.out,HNL.out,m7 _ _ _ _ hkp,HTG2.out] at hj;have HJ:=aa hj;clear hj hk2 hkp;go_wp2_with (go_at_call 133;refine HJ.mono ?_;rintro e w9 ⟨rfl,ht9,hg9⟩)
       have HT9:=aa ht9;have HB9:=aa (ag HB.out hg9 HB.size (HT.blo.2.2 L (by omega)));clear ht9 hg9;go_roundw
       case rel=>exact ⟨k+1,_,by omega,by go_num,HT9.out,fun q hq=>(jY _ _ (by have:=HL'.out;omega)).trans (HNS.out q hq),iS _ _ _,HB9.out⟩
       case measure=>simp [intOf];omega
      ·obtain rfl:k=N2:=by omega
       have hal:∀q,q≤L→ns3 q=eh ls h q:=fun q hq=>by
        by_cases hqL:q=L
        ·subst hqL;have:=HNL.out;rw [←HN2.out,m6] at this;exact this
        ·exact HNS.out q (by have:=HL'.out;omega)
       have HAL:=aa hal;clear hal;go_wp2_with fail
       go_roundw
       case rel=>exact ⟨L,hi3,T2,ns3,by have:=HL'.out;omega,rfl,HT.out,HAL.out,HTG2.out,HB.out⟩
       case measure=>have:=HL'.out;simp [intOf];omega
    ·obtain rfl:lv=h:=by omega
     go_wp2_with fail
     go_ret2;exact ⟨T,hi2,ns2,by rw [HTG.out];rfl,HT.out,HNS.out,HB.out⟩
def dE (w:World) (lo hi:Nat) (T:Tr) (ls:List (List Int)):Prop:=∃ns,aY w lo hi T (bB ls.length) (bB ls.length+1) ls ns∧∀j,j≤bB ls.length→ns j=eh ls (bB ls.length) j
theorem dE.keep {w w' : World} {lo hi:Nat} {T:Tr} {ls:List (List Int)} (t:dE w lo hi T ls) (hs:w.heap.size≤w'.heap.size) (hk:∀b,lo≤b→b < hi→w'.heap[b]?=w.heap[b]?):dE w' lo hi T ls:=by obtain ⟨ns,t,e⟩:=t;exact ⟨ns,t.keep hs hk,e⟩
theorem dE.later {w w' : World} {lo hi:Nat} {T:Tr} {ls:List (List Int)} (t:dE w lo hi T ls) (hb:Below w.heap.size w w'):dE w' lo hi T ls:=by obtain ⟨ns,t,e⟩:=t;exact ⟨ns,t.later hb,e⟩
theorem pq (w:World) (A:Option Addr) (n c:Nat) (ls:List (List Int)) (ho:cY ls) (hs:Sl w w.heap.size 8 A n (aJ ls)) (hok:1≤n∧n≤4096):Calls Tryz.prog 71 #[.slice A n c] w fun e w'=>∃(T:Tr) (hi:Nat),e=.returned (.tuple #[.pointer (some ⟨T.g,0,none⟩),.int .i64 0])∧dE w' w.heap.size hi T ls∧Below w.heap.size w w':=by have hl:=hs.dgs ho;refine (xP w A n c ls ho hs hok).mono ?_;rintro e w' ⟨T,hi,ns,rfl,t,e1,hb⟩;subst hl;exact ⟨T,hi,rfl,⟨ns,t,e1⟩,hb⟩
set_option maxRecDepth 20000 in
theorem kG (w:World) (lo hi:Nat) (T:Tr) (ls:List (List Int)) (t:dE w lo hi T ls):Calls Tryz.prog 33 #[.pointer (some ⟨T.g,0,none⟩)] w fun e w'=>e=.returned (.agg (dgA (dU ls)))∧Below w.heap.size w w':=by
 obtain ⟨ns,t,hal⟩:=t;have h12:=t.hm.2;have hn4:=t.n12;have hn1:=t.lc.1;have hri:dU ls=kF (cQ ls (bB ls.length) 0) (bB ls.length):=by rw [dU,if_pos ⟨hn1,hn4⟩]
 obtain ⟨w1,hw1⟩:∃w1,w.alloc (.cells (dgA ap) 45)=w1:=⟨_,rfl⟩;have kz:bU w1 w.heap.size 45 ap:=hw1▸cM w _ _;have hb1:Below w.heap.size w w1:=hw1▸ai w _;have t1:=t.later hb1;have HHT:=aa (nS w1 lo hi T _ _ ls ns t1);obtain ⟨h,hh⟩:∃h,bB ls.length=h:=⟨_,rfl⟩;rw [hh] at t1 hal h12 HHT hri;have hcell:=t1.ncell (l:=h) (by omega);rw [Nat.sub_self] at hcell;have hd:(ns h)[0]?=some (cQ ls h 0):=by rw [hal h (Nat.le_refl _)];exact fU _ _ _ _ (by rw [Nat.sub_self];decide)
 have hr:=jO (t1.nsl (l:=h) (by omega)) (t1.nv h (by omega)).2.2 hd;rw [Nat.zero_add,Nat.zero_mul] at hr;have hok:=jW ls h 0;have HKZ:=aa kz;have HB1:=aa hb1;have HW:=aa hw1;have HR:=aa hr;have HRI:=aa hri;have HI8:Hid ((Tryz.prog.info? 45).map (·.size)=some ((cQ ls h 0).map (Value.int .u8)).length):=by show _=_;rw [List.length_map,hok.len];exact iO
 obtain ⟨g,hg⟩:∃g,T.g=g:=⟨_,rfl⟩;obtain ⟨bh,hbh⟩:∃bh,T.bn h=bh:=⟨_,rfl⟩;rw [hg,hbh] at hcell;rw [hg] at HHT;rw [hbh] at HR;rw [hg];have i1:(0:Int)≤(h:Int):=by omega
 have i2:(h:Int) < 13:=by omega
 clear t t1 hal hd hr hri hg hbh kz hb1 hw1 hh;go_enter Tryz.func33,Tryz.ntmps33;go_upto_region 1 with fail
 rw [fj,show List.replicate 8 (0:Int)=ap from rfl,HW.out];go_wp2_with (first | (go_at_call 72;refine HHT.mono ?_;rintro e w2 ⟨rfl,rfl⟩) | (refine wpList_load_mid rfl 45 _ rfl bh 0 rfl ((cQ ls h 0).map (.int .u8)) _ HR.out Tryz.underlying45 rfl HI8.out ?_))
 refine (sx _ (cQ ls h 0) hok (h:Int) (by omega) (by omega)).mono ?_;rintro e w2 ⟨rfl,hb2⟩;rw [Int.toNat_natCast,←HRI.out];have HB2:=aa (HB1.trans (hb2.mono HB1.size));have HZ2:=aa (HKZ.later hb2);have HI:=bM (dU ls) (gz _);have HO:=aa (dk (dU ls));have HSZ:Hid ((dgA ap).size=(dgA (dU ls)).size):=by show _=_;rw [bc,bc,(gz _).len];rfl
 clear hb2;go_wp2_with (refine wpList_store_row rfl 45 _ _ rfl w.heap.size (dgA (dU ls)) rfl rfl 45 (dgA ap) HZ2.heap HI.out HSZ.out HO.out ?_)
 refine bodyPost_ret (results_cell_row (p:=2) (ty:=45) rfl _ _ w.heap.size 45 (dgA (dU ls)) (0,0) _ rfl (setRow_heap _ _ _ _ _ _ HZ2.heap) Tryz.underlying45 rfl HI.out) rfl ?_;exact ⟨rfl,below_setRow HB2.out (by omega) _⟩
theorem xQ:∀a:Fin 65,∀b:Fin 64,bits .xor .i64 ((a.val*64+b.val:Nat):Int) 1=(sib (a.val*64+b.val):Int):=by decide +kernel
theorem xR (k:Nat) (h:k≤4096):bits .xor .i64 (k:Int) 1=(sib k:Int):=by have:=xQ ⟨k / 64,by omega⟩ ⟨k % 64,by omega⟩;simp only [show k / 64*64+k % 64=k by omega] at this;exact this
theorem zy {k p:Nat} (h:k < 2*p):sib k < 2*p:=by unfold sib;split <;> omega
set_option maxRecDepth 20000 in
theorem m8 (w:World) (lo hi:Nat) (T:Tr) (ls:List (List Int)) (t:dE w lo hi T ls) (i:Int):Calls Tryz.prog 37 #[.pointer (some ⟨T.g,0,none⟩),.int .i64 i] w fun e w'=>(∃v,e=.returned (.tuple #[v,.int .i64 (jX ls.length i)])∧w'.ownsRow w.heap.size 45 8 v (dD ls i).length (aJ (dD ls i)))∧Below w.heap.size w w':=by
 obtain ⟨ns,t,hal⟩:=t;have h12:=t.hm.2;have hn4:=t.n12;have hn1:=t.lc.1;have HHA:=aa (xO w lo hi T _ _ ls ns t i);have HHT:=aa (nS w lo hi T _ _ ls ns t);have hlh:=t.lh;by_cases hin:0≤i∧i < ls.length
 ·have HHB:=aa (show nR ls.length i=true by rw [nR];exact decide_eq_true hin);have HPE:=aa (show jX ls.length i=0 by rw [jX,if_pos ⟨hn1,hn4⟩,if_pos hin]);obtain ⟨i0,rfl⟩:∃i0:Nat,i=i0:=⟨i.toNat,by omega⟩;have HPL:=aa (show dD ls i0=gi ls i0 (bB ls.length) by rw [dD,if_pos ⟨⟨hn1,hn4⟩,hin⟩,Int.toNat_natCast]);rw [HHB.out] at HHA;obtain ⟨h,hh⟩:∃h,bB ls.length=h:=⟨_,rfl⟩;rw [hh] at t hal h12 HHT HPL hlh;have hi0:i0 < 2 ^ h:=by omega
  have HT:=aa t;have HAL:=aa hal;have HI0:=aa hi0;have hi4:i0≤4096:=by omega
  obtain ⟨d0,hdi,hd0,hd1,hd2⟩:=info_parts Tryz.infoDg;have hmk:∀W,(Instr.makeSlice 52 (.int .i64 0) (.int .i64 (h:Int))).run Tryz.prog W=.ok (.slice (some ⟨W.heap.size,0,none⟩) 0 h) (W.alloc (.cells (madeCells j0 (h*8)) 45)):=fun W=>by have:=run_make (P:=Tryz.prog) W 52 45 d0 (.agg (dgA ap)) Tryz.underlying52 hdi hd0 .i64 .i64 0 h (by omega) (by omega) (by rw [hd2];omega) (by omega);rw [hd1,Int.toNat_natCast] at this;exact this
  obtain ⟨w1,hw1⟩:∃w1,w.alloc (.cells (madeCells j0 (h*8)) 45)=w1:=⟨_,rfl⟩;have hown:w1.ownsRow w.heap.size 45 8 (.slice (some ⟨w.heap.size,0,none⟩) 0 h) 0 []:=hw1▸World.ownsRow_made w _ h (Nat.le_refl _) (by unfold maxLen;omega) (size_madeCells _ _);have hb1:Below w.heap.size w w1:=hw1▸ai w _;have HW1:=aa hw1;have HOW:=aa hown;have HB1:=aa hb1;have HHT1:=aa (nS w1 lo hi T _ _ ls ns (t.later hb1));rw [hh] at HHT1;obtain ⟨g,hg⟩:∃g,T.g=g:=⟨_,rfl⟩;rw [hg] at HHA HHT HHT1;have HTG:=aa hg;rw [hg];clear t hal hg hi0 hh hw1 hown hb1 hin hlh;go_enter Tryz.func37,Tryz.ntmps37;go_wp2_with (first | (go_at_call 81;refine HHA.mono ?_;rintro e w2 ⟨rfl,rfl⟩) | (go_at_call 72;(first | (refine HHT.mono ?_;rintro e w2 ⟨rfl,rfl⟩) | (rw [HW1.out];refine HHT1.mono ?_;rintro e w2 ⟨rfl,rfl⟩))))
  go_loopw [1,6,21] (fun ks vo ms wr=>∃(m k:Nat),m≤h∧ks=.int .i64 k∧ms=.int .i64 m∧k≤4096∧Hid (k=i0 / 2 ^ m)∧Hid (wr.ownsRow w.heap.size 45 8 vo m (aJ (gi ls i0 m)))∧Hid (Below w.heap.size w wr)) (fun _ _ ms _=>h - (intOf ms).toNat)
  case atStart=>exact ⟨0,i0,by omega,rfl,rfl,hi4,by show _=_;simp,HOW.out,HB1.out⟩
  case round=>
   obtain ⟨m,k,hm,rfl,rfl,hk,HK,HO,HB⟩:=hrel;by_cases hlt:m < h
   ·have hm1:(m:Int) < h:=by omega
    obtain ⟨q,hq⟩:∃q,k / 2=q:=⟨_,rfl⟩;have hdv:(k:Int) / 2=(q:Int):=by omega
    have hq4:q≤4096:=by omega
    have HQ:Hid (q=i0 / 2 ^ (m+1)):=by show _=_;rw [←hq,HK.out,Nat.pow_succ,Nat.div_div_eq_div_mul]
    have hpow:2 ^ (h - m)=2*2 ^ (h - (m+1)):=by rw [show h - m=(h - (m+1))+1 by omega,Nat.pow_succ];omega
    have hkb:k < 2 ^ (h - m):=by rw [HK.out,Nat.div_lt_iff_lt_mul (Nat.two_pow_pos m),←Nat.pow_add,show h - m+m=h by omega];exact HI0.out
    have hsb:sib k < 2 ^ (h - m):=by rw [hpow] at hkb ⊢;exact zy hkb
    have hxo:=xR k hk;obtain ⟨s,hs⟩:∃s,sib k=s:=⟨_,rfl⟩;have HSB:Hid (sib (i0 / 2 ^ m)=s):=by show _=_;rw [←HK.out];exact hs
    rw [hs] at hxo hsb;have tw:=HT.later (HB.out);have hmm:m < h+1:=by omega
    have hcell:=tw.ncell hmm;have hnm:=HAL.out m (by omega);have hx:(ns m)[s]?=some (cQ ls m s):=by rw [hnm];exact fU _ _ _ _ hsb
    obtain ⟨o0,o1,o2,o3,o4,o5,o6,o7,ho⟩:=dQ (cQ ls m s) (jW _ _ _).len;rw [ho] at hx;have hr:=jO (tw.nsl hmm) (tw.nv m hmm).2.2 hx;rw [Nat.zero_add] at hr;obtain ⟨c0,c1,c2,c3,c4,c5,c6,c7⟩:=eX hr;obtain ⟨N,hN⟩:∃N,2 ^ (h - m)=N:=⟨_,rfl⟩;rw [hN] at hcell hsb;rw [HTG.out] at hcell;have HND:=aa ho;have i1:(0:Int)≤(m:Int):=by omega
    have i2:(m:Int) < 13:=by omega
    have i3:(0:Int)≤(s:Int):=by omega
    have i4:(s:Int) < N:=by omega
    have hsz:=HB.size;clear tw hnm hx hr hq hs hpow hkb hN hmk ho;go_wp2_with (at_builtin;refine bm _ rfl (.tmp 24) (.tmp 35) 52 rfl w.heap.size 45 d0 (.agg (dgA ap)) 8 8 Tryz.underlying52 hdi hd0 hd1 hd2 rfl (by decide) _ _ _ rfl (HO.alloc _) _ _ 1 1 [.int .u8 o0,.int .u8 o1,.int .u8 o2,.int .u8 o3,.int .u8 o4,.int .u8 o5,.int .u8 o6,.int .u8 o7] rfl (nO _ #[_,_,_,_,_,_,_,_] _ 8 1 rfl (by omega)) (by simp [Value.oneCell']) (by unfold maxLen;omega) (by omega) (by simp;omega) ?_;intro v1 w3 hown1 hg1 hat1)
    have hb3:=aB (HB.alloc HB.size (.cells #[.int .u8 o0,.int .u8 o1,.int .u8 o2,.int .u8 o3,.int .u8 o4,.int .u8 o5,.int .u8 o6,.int .u8 o7] 45)) (HO.alloc _) hg1 (Nat.le_refl _) (by simp;omega);have HO3:Hid (w3.ownsRow w.heap.size 45 8 v1 (m+1) (aJ (gi ls i0 (m+1)))):=by show World.ownsRow _ _ _ _ _ _ _;rw [lA,pm,HSB.out,HND.out];exact hown1
    have HB3:=aa hb3;clear hown1 hg1 hat1 hb3;go_roundw
    case rel=>exact ⟨m+1,q,by omega,rfl,by go_num,hq4,HQ,HO3,HB3⟩
    case measure=>simp [intOf];omega
   ·obtain rfl:m=h:=by omega
    go_wp2_with fail
    go_ret2;rw [HPE.out,HPL.out,fI];exact ⟨⟨_,rfl,HO.out⟩,HB.out⟩
 ·have HHB:=aa (show nR ls.length i=false by rw [nR];exact decide_eq_false hin);have HPE:=aa (show jX ls.length i=9 by rw [jX,if_pos ⟨hn1,hn4⟩,if_neg hin]);have HPL:=aa (show dD ls i=[] by rw [dD,if_neg (fun h=>hin h.2)]);rw [HHB.out] at HHA;clear t hal;go_enter Tryz.func37,Tryz.ntmps37;go_wp2_with (go_at_call 81;refine HHA.mono ?_;rintro e w2 ⟨rfl,rfl⟩)
  go_ret2;rw [HPE.out,HPL.out];exact ⟨⟨_,rfl,World.ownsRow_nil _ _ _ _⟩,Below.refl _ _⟩
theorem pr:∀(xs:List (List Int)) (i:Nat) (d x:List Int),upI i d (xs ++ [x])=eJ (i / 2 ^ xs.length) (upI i d xs) x
 | [],i,d,x=>by simp [upI]
 | y :: ys,i,d,x=>by rw [List.cons_append,upI,upI,pr ys,List.length_cons,Nat.div_div_eq_div_mul,Nat.pow_succ,Nat.mul_comm 2]
theorem pt (ls:List (List Int)) (i:Nat):∀h,upI i (cQ ls 0 i) (gi ls i h)=cQ ls h (i / 2 ^ h)
 | 0=>by rw [Nat.pow_zero,Nat.div_one];rfl
 | h+1=>by
  have e:i / 2 ^ (h+1)=i / 2 ^ h / 2:=by rw [Nat.pow_succ,Nat.div_div_eq_div_mul]
  rw [lA,pr,pt ls i h,fI,fT,e];generalize i / 2 ^ h=k;unfold eJ sib;by_cases hk:k % 2=0
  ·rw [if_pos hk,if_neg (by omega),show 2*(k / 2)=k by omega]
  ·rw [if_neg hk,if_pos (by omega),show 2*(k / 2)=k - 1 by omega,show k - 1+1=k by omega]
theorem zA (k:Nat):sib k≠k:=by unfold sib;split <;> omega
theorem j1 {ls:List (List Int)} {i:Nat} (hi:i < ls.length) (h4:ls.length≤4096):dD ls i=gi ls i (bB ls.length):=by unfold dD;rw [if_pos ⟨⟨by omega,h4⟩,by omega,by omega⟩,Int.toNat_natCast]
theorem na {ls:List (List Int)} {i:Nat} (hi:i < ls.length) (h4:ls.length≤4096):i < 2 ^ bB ls.length:=Nat.lt_of_lt_of_le hi (mV h4)
theorem pu {ls:List (List Int)} {i:Nat} (hi:i < ls.length) (h4:ls.length≤4096):gh i (dD ls i).length=true:=by rw [j1 hi h4,fI];exact decide_eq_true ⟨mU h4,by omega,Int.ofNat_lt.2 (na hi h4)⟩
theorem pv {ls:List (List Int)} {i:Nat} {d:List Int} (hd:ls[i]?=some d) (h4:ls.length≤4096):ep i d (dD ls i)=dU ls:=by
 have hi:i < ls.length:=(List.getElem?_eq_some_iff.1 hd).1;have hu:i / 2 ^ bB ls.length=0:=Nat.div_eq_of_lt (na hi h4);have hn:cQ ls 0 i=fR d:=by rw [fS,hd,mX]
 have hu2:=pt ls i (bB ls.length);rw [hu,hn] at hu2;unfold ep dU;rw [pu hi h4,if_pos rfl,if_pos ⟨by omega,h4⟩,Int.toNat_natCast,j1 hi h4,fI,hu2]
theorem pw {ls:List (List Int)} {i:Nat} {d:List Int} (hd:ls[i]?=some d) (h4:ls.length≤4096):jv (dU ls) i d (dD ls i)=true:=by unfold jv;rw [pu (List.getElem?_eq_some_iff.1 hd).1 h4,pv hd h4,jN];rfl
def Bm (d:List Int):List Int:=jq (fh (eV 2) (eI d))
def vl:Nat→List Int→List Int
 | 0,d=>d
 | n+1,d=>Bm (vl n d)
def ig (l:List (List Int)):St:=l.foldl (fun s d=>fh s (eI d)) (eV 5)
def lM (l:List (List Int)):List Int:=jq (fh (ig l) l.length)
theorem pF (l:List (List Int)):aO (lM l):=gJ _
theorem qV (l:List (List Int)) (d:List Int):ig (l ++ [d])=fh (ig l) (eI d):=by unfold ig;rw [List.foldl_append];rfl
def zB (sec:List Int) (c:Nat):List Int:=ip sec (cT c)
def vm:List Int→Int
 | []=>0
 | b :: l=>(30 - b % 16 - b / 16)+vm l
def zC (msg:List Int) (c:Nat):Nat:=
 if c < 16 then (if c % 2=0 then ((msg.getD (c / 2) 0) % 16).toNat else ((msg.getD (c / 2) 0) / 16).toNat)
 else if c=16 then (vm msg % 16).toNat else (vm msg / 16).toNat
def xT:List Nat:=List.range 18
def Bn (sec msg:List Int):List (List Int):=xT.map fun c=>vl (zC msg c) (zB sec c)
def yZ (cap:Nat) (L:List (List Int)) (m:List Int):List (List Int):=if m∈L then L else if L.length < cap then L ++ [m] else L
structure kT (cap:Nat) (L:List (List Int)):Prop where
 ok:cY L
 nd:L.Nodup
 le:L.length≤cap
theorem kT.nil (cap:Nat):kT cap []:=⟨(fun d hd=>by cases hd),List.nodup_nil,Nat.zero_le _⟩
theorem kT.snoc {cap:Nat} {L:List (List Int)} {m:List Int} (h:kT cap L) (hm:aO m) (hn:m ∉ L) (hl:L.length < cap):kT cap (L ++ [m]):=
 ⟨fun d hd=>by
   rcases List.mem_append.1 hd with hd | hd
   ·exact h.ok d hd
   ·rw [List.mem_singleton] at hd;subst hd;exact hm,
  List.nodup_append.2 ⟨h.nd,by simp,fun a ha b hb=>by rw [List.mem_singleton] at hb;subst hb;rintro rfl;exact hn ha⟩,
  by rw [List.length_append];simp;omega⟩
theorem kT.step {cap:Nat} {L:List (List Int)} {m:List Int} (h:kT cap L) (hm:aO m):kT cap (yZ cap L m):=by
 unfold yZ;split
 ·exact h
 ·split
  ·rename_i h1 h2;exact h.snoc hm h1 h2
  ·exact h
end Go.Proofs.YtllbdpdnpaocnaaGreatDoor
