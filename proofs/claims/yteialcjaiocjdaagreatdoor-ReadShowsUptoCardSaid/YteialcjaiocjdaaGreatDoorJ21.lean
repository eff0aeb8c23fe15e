/-
  Parts of the proof: Lpart Lquot Lcatch Ltext. By an AI agent.
-/
import Derived.Test.YteialcjaiocjdaaGreatDoorJ20
import Derived.Test.YteialcjaiocjdaaGreatDoorJ18
import Derived.Test.YteialcjaiocjdaaGreatDoorJ19
import Derived.Deep.RegionLaw
import Derived.Maps.OwnOps
import Derived.BigQuiet
import Derived.Defers
import Derived.Recover
import Derived.StillTailTactics
open Go.Proofs.Tryz
set_option maxRecDepth 100000
set_option maxHeartbeats 8000000
namespace Go.Proofs.YteialcjaiocjdaaGreatDoor
section
open Go.RowKit Go.Lib Go.Proofs
attribute [local go_sem ↓] Go.wp_at_zero Go.wp_at_succ
theorem kH:type_of% @List.setIfInBounds_toArray:=@List.setIfInBounds_toArray
theorem kW:type_of% @Option.bind_some:=@Option.bind_some
theorem qa:type_of% @List.set_cons_succ:=@List.set_cons_succ
theorem qb:type_of% @List.set_cons_zero:=@List.set_cons_zero
theorem vg:type_of% @Nat.le_of_ble_eq_true:=@Nat.le_of_ble_eq_true
theorem vx:type_of% @List.take_zero:=@List.take_zero
theorem D5{B:Nat}{w wk wl:World}{b:Nat}(h:Below B w wk)(D:wk.grownBy wl (some b))(hb:B<=b)(hs:B<=wk.heap.size):Below B w wl:=
 h.trans ⟨D.os,D.tape,D.output,D.size,fun k hk=>D.block k (by omega) (fun e=>by injection e with e;omega)⟩
def D9:DataW Unit:=D4 (.map []) Fs
theorem mz(w:World):Calls prog 186 #[] w fun e w'=>∃b,e=.returned (.map (some b))/\w'.ownsMap prog 5 (plainElem prog 5) b 9 D9/\w.heap.size<=b/\Below w w w':=by have I :=@run_makeMap prog;have D:=World.ownsMap_made (H:=Unit) w prog 5 (plainElem prog 5);have M:Below w w (w.alloc (.map #[] 0)):=(gH _ _).alloc (gC _) _;(go_enter func186,ntmps186);go_wp2_with (refine r8 _ rfl (.tmp 1) _ _ rfl (by decide) (by decide) w.heap.size _ _ rfl (by assumption) (by decide) ?_;intro w1 hown1 hg1;have J:=D5 (w:=w) (by assumption) hg1 (gC _) (Below.size (by assumption));clear hg1);go_ret;exact⟨_,rfl,by assumption,gC _,by assumption⟩
theorem RW(c:Nat):D9.atKey (.int .u8 (c:Int)) (.lit (.int .u8 0))=.lit (.int .u8 (((eP c).getD 0:Nat):Int))/\Maps.has D9 (.int .u8 (c:Int))=(eP c).isSome:=by
 by_cases h1:c=97
 ·subst h1;exact⟨rfl,rfl⟩
 by_cases h2:c=98
 ·subst h2;exact⟨rfl,rfl⟩
 by_cases U:c=102
 ·subst U;exact⟨rfl,rfl⟩
 by_cases O:c=110
 ·subst O;exact⟨rfl,rfl⟩
 by_cases N:c=114
 ·subst N;exact⟨rfl,rfl⟩
 by_cases M:c=116
 ·subst M;exact⟨rfl,rfl⟩
 by_cases J:c=118
 ·subst J;exact⟨rfl,rfl⟩
 by_cases I:c=92
 ·subst I;exact⟨rfl,rfl⟩
 by_cases h9:c=34
 ·subst h9;exact⟨rfl,rfl⟩
 (have hs:eP c=none:=by unfold eP;simp only[h1,h2,U,O,N,M,J,I,h9,jW]);rw[hs];have D:∀k:Int,(c:Int)≠k->(Lit.int .u8 (c:Int))≠.int .u8 k:=fun k h e=>h (by injection e);unfold D9 Fs;simp only[D4];constructor
 ·(repeat rw[Maps.atKey_put_other (D _ (by omega))]);rfl
 ·(repeat rw[Maps.has_put_other (D _ (by omega))]);rfl
theorem o9(b:Nat)(w:World)(I:w.ownsMap prog 5 (plainElem prog 5) b 9 D9)(c:Nat)(h:c<256):
  (Instr.lookup 146 (.map (some b)) (.int .u8 (c:Int)) true).run prog w=.ok (.tuple #[.int .u8 (((eP c).getD 0:Nat):Int),.bool (eP c).isSome]) w:=by(have J:(Lit.int .u8 (c:Int)).wf=true:=by simp[Lit.wf,IntKind.min,IntKind.max,IntKind.signed,IntKind.bits];omega);have U:(zeroValue 5).run prog w=.ok (.int .u8 0) w:=zeroValue5 w;obtain⟨v,ps,D,O⟩:=I.look_ok (Maps.int_keyed underlying5) underlying146 U (plainElem_int (H:=Unit) underlying5 (by decide)) (Maps.keyOf_int_mk underlying5 J);rw[(RW c).1]at O;rw[(RW c).2]at D;generalize(eP c).getD 0=vv at *;generalize(eP c).isSome=sb at *;obtain⟨c',rfl,M,_⟩:=plainElem_int_inv underlying5 O;have N:=jM Prod.fst M;simp only at N;simp only[DataW.lit.injEq,Lit.int.injEq,true_and]at N;subst N;exact D
theorem uM(radix:Nat):∀(l:List UInt8)(v x:Nat),fA radix l v=some x->x<(v+1)*radix^l.length
 |[],v,x,h=>by rw[fA]at h;injection h with h;simp;omega
 | c::r,v,x,h=>by
  rw[fA]at h;cases hd:ij c.toNat with
  |none=>rw[hd]at h;cases h
  |some d=>
   rw[hd]at h;simp only at h;split at h
   ·rename_i D;have:=uM radix r _ _ h;refine kK this ?_;rw[gO,Nat.pow_succ,Nat.mul_comm (radix^r.length) radix,<-Nat.mul_assoc];refine Nat.mul_le_mul_right _ ?_;rw[Nat.add_mul,qe];omega
   ·cases h
theorem oo{l:List UInt8}{n radix x m:Nat}(h:cA l n radix=some x)(D:radix^n<=m):x<m:=by
 unfold cA at h;split at h
 ·have:=uM radix _ _ _ h;rw[qL,Nat.min_eq_left (by assumption)]at this;omega
 ·cases h
theorem D6{c x:Nat}(h:eP c=some x):x<=255:=by unfold eP at h;(repeat' split at h);all_goals first|(injection h with h;omega)|cases h
theorem LD(w7:World)(g7 c7:Nat)(b:Int)(D:0<=b)(hb:b<=255)(h:w7.cell? ⟨g7,0,none⟩=some (.int .u8 b)):(convert 27 9 (.slice (some ⟨g7,0,none⟩) 1 c7)).run prog w7=.ok (.string ⟨#[UInt8.ofNat b.toNat]⟩) w7:=by refine run_convert_bytes_back (P:=prog) w7 27 9 5 ⟨g7,0,none⟩ c7 [UInt8.ofNat b.toNat] underlying27 underlying5 underlying9 (fun j hj=>?_);(have:j=0:=by simp at hj;omega);subst this;rw[show w7.cell? (Addr.add ⟨g7,0,none⟩ 0)=some (.int .u8 b)from h];simp;rw[Int.emod_eq_of_lt (by omega) (by omega)];omega
theorem mh(r:Int):Lib.validRune r=Utf8.valid r:=by unfold Lib.validRune Utf8.valid;rw[kT];simp;omega
def rt(c:UInt8)(r:List UInt8):Option (List UInt8×Nat):=
 if c.toNat=120 then(cA r 2 16).map fun v=>([UInt8.ofNat v],3)
 else if c.toNat=117 then(cA r 4 16).bind fun v=>if Utf8.valid (v:Int)=true then some ((Utf8.encode (v:Int)).data.toList,5)else none
 else if c.toNat=85 then(cA r 8 16).bind fun v=>if Utf8.valid (v:Int)=true then some ((Utf8.encode (v:Int)).data.toList,9)else none
 else(cA (c::r) 3 8).bind fun v=>if v<=255 then some ([UInt8.ofNat v],3)else none
theorem uN(c:UInt8)(r:List UInt8)(h:eP c.toNat=none):l9 (c::r)=rt c r:=by rw[l9,h];rfl
def LE(w:World)(r:Option (List UInt8×Nat))(e:Ending)(w':World):Prop:=
 Below w w w'/\match r with
 |some p=>e=.returned (.tuple #[.string ⟨p.1.toArray⟩,.int .i64 (p.2:Int)])
 |none=>e=cG
theorem LF(s:ByteArray)(hs:s.size<=65536)(w:World):Calls prog 133 #[s] w (LE w (l9 s.data.toList)):=by
 obtain⟨R,hR⟩:∃R,R=l9 s.data.toList:=⟨_,rfl⟩;rw[<-hR];have HR:=hid hR;clear hR;have gt:s.data.toList.length=s.size:=rfl;by_cases hn:s.size=0
 ·(have gw:s=⟨#[]⟩:=by have hl:s.data.toList=[]:=jS (by omega);cases s;simp at hl;subst hl;rfl);subst gw;have HN:Hid (R=none):=hid HR.out;clear HR gt hn;(go_enter func133,ntmps133);go_wp2_with fail;refine(dN _).mono ?_;rintro e w2⟨rfl,rfl⟩;unfold cG;refine⟨rfl,?_⟩;rw[HN.out];exact⟨gH _ _,rfl⟩
 (have g1:s.toList.isEmpty=false:=by rw[ao];exact gP (by rintro rfl;exact hn rfl));obtain⟨c,rr,gr,gv,gq⟩:=pI s 0 (by omega);have g0:∀W,(Instr.index 9 (.string s) (.int .i64 0)).run prog W=.ok (.int .u8 (aI s 0:Int)) W:=fun W=>lV s 0 (by omega) W;have gl:=ml s 0;have gy:Hid (s.data.toList=c::rr):=hid (by rw[<-gr,qu]);have HC:=hid (show R=l9 (c::rr)by rw[HR.out,<-gr,qu]);have gg:=hid gv;have gb:=hid (show(s.extract 1 s.size).data.toList=rr by rw[Lib.extract_data,<-gq,gV (by rw[gq,jH];omega)]);clear HR gr gv gq gt;generalize aI s 0=bb at *;(go_enter func133,ntmps133);go_wp2_with fail;refine(fe _).mono ?_;rintro e w2⟨rfl,rfl⟩;cases gk:eP bb with
 | some x=>
  have HS:=hid gk;clear gk;go_wp2_with fail;go_region_law (first
   |(go_simp;(go_at_call 186);refine(mz _).mono ?_;rintro e w3⟨b,rfl,D,gd,I⟩;have M:=(gH w.heap.size w).drew.trans I;have ga:=M.size;have J:=o9 b w3 D bb gl;rw[HS.out]at J;simp only[vk,Option.isSome_some]at J;clear D I gd))
  all_goals have HX:=hid (show R=some ([UInt8.ofNat x],1)by rw[HC.out,l9,gg.out,HS.out]);(have gi:(0:Int)<=(x:Int):=by omega);(have gh:(x:Int)<=255:=by have:=D6 HS.out;omega);have gu:=fun W g7 c7 h=>LD W g7 c7 (x:Int) gi gh h;clear HC gb J;go_wp2_with fail;go_ret2;rw[HX.out];exact⟨M.alloc ga _,rfl⟩
 | none=>
  have HS:=hid gk;have HP:Hid (R=rt c rr):=hid (by rw[HC.out,uN _ _ (by rw[gg.out];exact gk)]);have ge:=hid gy.out;(have gz:decide ((1:Int)<=(s.size:Int))=true:=by rw[gR];omega);clear gk HC;by_cases gm:bb=120
  ·have HD:=hid (show R=(cA rr 2 16).map fun v=>([UInt8.ofNat v],3)by rw[HP.out,rt,gg.out,gm];rfl);(have c1:((bb:Int)==120)=true:=by rw[kO];omega);clear HP ge gm;go_wp2_with fail;go_region_law (first
    |(go_simp;(go_at_call 186);refine(mz _).mono ?_;rintro e w3⟨b,rfl,D,gd,I⟩;have M:=(gH w.heap.size w).drew.trans I;have ga:=M.size;have J:=o9 b w3 D bb gl;rw[HS.out]at J;simp only[vn,qj]at J;clear D I gd))
   all_goals
    clear J;go_wp2_with fail;refine(ol _ 2 16 (by decide) (by decide) _).mono ?_;rw[gb.out];cases hd:cA rr 2 16 with
    |none=>have HX:Hid (R=none):=hid (by rw[HD.out,hd];rfl);rintro e w4⟨U,rfl⟩;unfold cG;refine⟨rfl,?_⟩;rw[HX.out];exact⟨M.trans (U.mono ga),rfl⟩
    |some v=>have hv:=oo (m:=256) hd (by decide);rw[hd]at HD;clear hd;rintro e w4⟨U,rfl⟩;have N:=M.trans (U.mono ga);have gj:=N.size;have HX:=hid (show R=some ([UInt8.ofNat v],3)from HD.out);have q4:IntKind.u8.wrap (v:Int)=(v:Int):=IntWalk.u8_in _ (by omega);(have gi:(0:Int)<=(v:Int):=by omega);(have gh:(v:Int)<=255:=by omega);have gu:=fun W g7 c7 h=>LD W g7 c7 (v:Int) gi gh h;clear gb HD hv;go_wp2_with fail;go_ret2;rw[HX.out];exact⟨N.alloc gj _,rfl⟩
  by_cases gn:bb=117
  ·have HD:Hid (R=(cA rr 4 16).bind fun v=>if Utf8.valid (v:Int)=true then some ((Utf8.encode (v:Int)).data.toList,5)else none):=hid (by rw[HP.out,rt,gg.out,gn];rfl);(have c1:((bb:Int)==120)=false:=by rw[gF];omega);(have c2:((bb:Int)==117)=true:=by rw[kO];omega);(have c3:((bb:Int)==85)=false:=by rw[gF];omega);clear HP ge gn;go_wp2_with fail;go_region_law (first
    |(go_simp;(go_at_call 186);refine(mz _).mono ?_;rintro e w3⟨b,rfl,D,gd,I⟩;have M:=(gH w.heap.size w).drew.trans I;have ga:=M.size;have J:=o9 b w3 D bb gl;rw[HS.out]at J;simp only[vn,qj]at J;clear D I gd))
   all_goals
    clear J;go_wp2_with fail;refine(ol _ 4 16 (by decide) (by decide) _).mono ?_;rw[gb.out];cases hd:cA rr 4 16 with
    |none=>have HX:Hid (R=none):=hid (by rw[HD.out,hd];rfl);rintro e w4⟨U,rfl⟩;unfold cG;refine⟨rfl,?_⟩;rw[HX.out];exact⟨M.trans (U.mono ga),rfl⟩
    | some v=>
     have hv:=oo (m:=65536) hd (by decide);rw[hd]at HD;clear hd;rintro e w4⟨U,rfl⟩;have N:=M.trans (U.mono ga);have gj:=N.size;by_cases gx:v<=1114111
     ·(have e0:decide ((v:Int)<=1114111)=true:=by rw[gR];omega);have q4:IntKind.i32.wrap (v:Int)=(v:Int):=vi _ (by omega);cases O:Utf8.valid (v:Int)with
      |true=>have HX:=hid (show R=some ((Utf8.encode (v:Int)).data.toList,5)by rw[HD.out,kW,gG O]);clear gb HD hv;go_wp2_with fail;refine(lJ (v:Int) _).mono ?_;rw[mh,O];rintro e w5⟨rfl,rfl⟩;go_wp2_with fail;refine(fe _).mono ?_;rintro e w6⟨rfl,rfl⟩;go_wp2_with fail;go_ret2;rw[HX.out];exact⟨N,by generalize Utf8.encode (v:Int)=en;cases en;rfl⟩
      |false=>have HX:Hid (R=none):=hid (by rw[HD.out,kW,gB (by rw[O];decide)]);clear gb HD hv;go_wp2_with fail;refine(lJ (v:Int) _).mono ?_;rw[mh,O];rintro e w5⟨rfl,rfl⟩;go_wp2_with fail;refine(dN _).mono ?_;rintro e w6⟨rfl,rfl⟩;unfold cG;refine⟨rfl,?_⟩;rw[HX.out];exact⟨N,rfl⟩
     ·(have e0:decide ((v:Int)<=1114111)=false:=by rw[gK];omega);(have O:Utf8.valid (v:Int)=false:=by unfold Utf8.valid;simp;omega);have HX:Hid (R=none):=hid (by rw[HD.out,kW,gB (by rw[O];decide)]);clear gb HD hv O;go_wp2_with fail;refine(dN _).mono ?_;rintro e w6⟨rfl,rfl⟩;unfold cG;refine⟨rfl,?_⟩;rw[HX.out];exact⟨N,rfl⟩
  by_cases gs:bb=85
  ·have HD:Hid (R=(cA rr 8 16).bind fun v=>if Utf8.valid (v:Int)=true then some ((Utf8.encode (v:Int)).data.toList,9)else none):=hid (by rw[HP.out,rt,gg.out,gs];rfl);(have c1:((bb:Int)==120)=false:=by rw[gF];omega);(have c2:((bb:Int)==117)=false:=by rw[gF];omega);(have c3:((bb:Int)==85)=true:=by rw[kO];omega);clear HP ge gs;go_wp2_with fail;go_region_law (first
    |(go_simp;(go_at_call 186);refine(mz _).mono ?_;rintro e w3⟨b,rfl,D,gd,I⟩;have M:=(gH w.heap.size w).drew.trans I;have ga:=M.size;have J:=o9 b w3 D bb gl;rw[HS.out]at J;simp only[vn,qj]at J;clear D I gd))
   all_goals
    clear J;go_wp2_with fail;refine(ol _ 8 16 (by decide) (by decide) _).mono ?_;rw[gb.out];cases hd:cA rr 8 16 with
    |none=>have HX:Hid (R=none):=hid (by rw[HD.out,hd];rfl);rintro e w4⟨U,rfl⟩;unfold cG;refine⟨rfl,?_⟩;rw[HX.out];exact⟨M.trans (U.mono ga),rfl⟩
    | some v=>
     have hv:=oo (m:=4294967296) hd (by decide);rw[hd]at HD;clear hd;rintro e w4⟨U,rfl⟩;have N:=M.trans (U.mono ga);have gj:=N.size;by_cases gx:v<=1114111
     ·(have e0:decide ((v:Int)<=1114111)=true:=by rw[gR];omega);have q4:IntKind.i32.wrap (v:Int)=(v:Int):=vi _ (by omega);cases O:Utf8.valid (v:Int)with
      |true=>have HX:=hid (show R=some ((Utf8.encode (v:Int)).data.toList,9)by rw[HD.out,kW,gG O]);clear gb HD hv;go_wp2_with fail;refine(lJ (v:Int) _).mono ?_;rw[mh,O];rintro e w5⟨rfl,rfl⟩;go_wp2_with fail;refine(fe _).mono ?_;rintro e w6⟨rfl,rfl⟩;go_wp2_with fail;go_ret2;rw[HX.out];exact⟨N,by generalize Utf8.encode (v:Int)=en;cases en;rfl⟩
      |false=>have HX:Hid (R=none):=hid (by rw[HD.out,kW,gB (by rw[O];decide)]);clear gb HD hv;go_wp2_with fail;refine(lJ (v:Int) _).mono ?_;rw[mh,O];rintro e w5⟨rfl,rfl⟩;go_wp2_with fail;refine(dN _).mono ?_;rintro e w6⟨rfl,rfl⟩;unfold cG;refine⟨rfl,?_⟩;rw[HX.out];exact⟨N,rfl⟩
     ·(have e0:decide ((v:Int)<=1114111)=false:=by rw[gK];omega);(have O:Utf8.valid (v:Int)=false:=by unfold Utf8.valid;simp;omega);have HX:Hid (R=none):=hid (by rw[HD.out,kW,gB (by rw[O];decide)]);clear gb HD hv O;go_wp2_with fail;refine(dN _).mono ?_;rintro e w6⟨rfl,rfl⟩;unfold cG;refine⟨rfl,?_⟩;rw[HX.out];exact⟨N,rfl⟩
  have HD:Hid (R=(cA (c::rr) 3 8).bind fun v=>if v<=255 then some ([UInt8.ofNat v],3)else none):=hid (by rw[HP.out,rt,gg.out,gB gm,gB gn,gB gs]);(have c1:((bb:Int)==120)=false:=by rw[gF];omega);(have c2:((bb:Int)==117)=false:=by rw[gF];omega);(have c3:((bb:Int)==85)=false:=by rw[gF];omega);clear HP;go_wp2_with fail;go_region_law (first
   |(go_simp;(go_at_call 186);refine(mz _).mono ?_;rintro e w3⟨b,rfl,D,gd,I⟩;have M:=(gH w.heap.size w).drew.trans I;have ga:=M.size;have J:=o9 b w3 D bb gl;rw[HS.out]at J;simp only[vn,qj]at J;clear D I gd))
  all_goals
   clear J;go_wp2_with fail;refine(ol _ 3 8 (by decide) (by decide) _).mono ?_;rw[ge.out];cases hd:cA (c::rr) 3 8 with
   |none=>have HX:Hid (R=none):=hid (by rw[HD.out,hd];rfl);rintro e w4⟨U,rfl⟩;unfold cG;refine⟨rfl,?_⟩;rw[HX.out];exact⟨M.trans (U.mono ga),rfl⟩
   |some v=>
    have hv:=oo (m:=512) hd (by decide);rw[hd]at HD;clear hd;rintro e w4⟨U,rfl⟩;have N:=M.trans (U.mono ga);have gj:=N.size;by_cases gp:v<=255
    ·(have e0:decide ((v:Int)<=255)=true:=by rw[gR];omega);have HX:=hid (show R=some ([UInt8.ofNat v],3)by rw[HD.out,kW,gG gp]);have q4:IntKind.u8.wrap (v:Int)=(v:Int):=IntWalk.u8_in _ (by omega);(have gi:(0:Int)<=(v:Int):=by omega);(have gh:(v:Int)<=255:=by omega);have gu:=fun W g7 c7 h=>LD W g7 c7 (v:Int) gi gh h;clear gb HD hv ge;go_wp2_with fail;refine(fe _).mono ?_;rintro e w5⟨rfl,rfl⟩;go_wp2_with fail;go_ret2;rw[HX.out];exact⟨N.alloc gj _,rfl⟩
    ·(have e0:decide ((v:Int)<=255)=false:=by rw[gK];omega);have HX:Hid (R=none):=hid (by rw[HD.out,kW,gB gp]);clear gb HD hv ge;go_wp2_with fail;refine(dN _).mono ?_;rintro e w5⟨rfl,rfl⟩;unfold cG;refine⟨rfl,?_⟩;rw[HX.out];exact⟨N,rfl⟩
theorem D7(v:Int):(Utf8.encode v).data.toList.length<=4:=by unfold Utf8.encode;dsimp only;(repeat' split);all_goals exact vg rfl
theorem mU{l:List UInt8}{n radix x:Nat}(h:cA l n radix=some x):n<=l.length:=by
 unfold cA at h;split at h
 ·assumption
 ·cases h
theorem GP{l:List UInt8}{p:List UInt8×Nat}(h:l9 l=some p):p.1.length<=4/\1<=p.2/\p.2<=l.length:=by
 (have key:∀(a:List UInt8)(n m:Nat),some (a,n)=some p->a.length<=4->1<=n->n<=m->p.1.length<=4/\1<=p.2/\p.2<=m:=by intro a n m h N M J;rw[<-Option.some.inj h];exact⟨N,M,J⟩);have O:=D7;cases l with
 |nil=>cases h
 | cons c r=>
  rw[gO];cases hs:eP c.toNat with
  |some v=>rw[l9,hs]at h;exact key _ _ _ h (vg rfl) (gC _) (Nat.succ_le_succ (gQ _))
  | none=>
   rw[uN c r hs,rt]at h;clear hs;generalize c.toNat=n at h;by_cases N:n=120
   ·rw[gG N]at h;obtain⟨v,hd,h⟩:=Option.map_eq_some_iff.mp h;have I:=mU hd;exact key _ _ _ (jM some h) (vg rfl) (by omega) (by omega)
   ·rw[gB N]at h;by_cases M:n=117
    ·rw[gG M]at h;obtain⟨v,hd,h⟩:=Option.bind_eq_some_iff.mp h;have I:=mU hd;by_cases D:Utf8.valid (v:Int)=true
     ·rw[gG D]at h;exact key _ _ _ h (O _) (by omega) (by omega)
     ·rw[gB D]at h;cases h
    ·rw[gB M]at h;by_cases J:n=85
     ·rw[gG J]at h;obtain⟨v,hd,h⟩:=Option.bind_eq_some_iff.mp h;have I:=mU hd;by_cases D:Utf8.valid (v:Int)=true
      ·rw[gG D]at h;exact key _ _ _ h (O _) (by omega) (by omega)
      ·rw[gB D]at h;cases h
     ·rw[gB J]at h;obtain⟨v,hd,h⟩:=Option.bind_eq_some_iff.mp h;have I:=mU hd;rw[gO]at I;by_cases D:v<=255
      ·rw[gG D]at h;exact key _ _ _ h (vg rfl) (by omega) (by omega)
      ·rw[gB D]at h;cases h
theorem lm:∀(g g':Nat)(l:List UInt8),l.length<g->l.length<g'->cZ g l=cZ g' l
 |0,_,_,h,_=>absurd h (Nat.not_lt_zero _)
 |_+1,0,_,_,h=>absurd h (Nat.not_lt_zero _)
 |g+1,g'+1,[],_,_=>by rw[cZ,cZ]
 | g+1,g'+1,c::r,h,h'=>by
  rw[cZ,cZ];simp only[gO]at h h';split
  ·cases D:l9 r with
   |none=>rfl
   |some p=>simp only[kW];rw[lm g g' (r.drop p.2) (by rw[jH];omega) (by rw[jH];omega)]
  ·split
   ·rfl
   ·rw[lm g g' r (by omega) (by omega)]
theorem O8.below{B b:Nat}{bs:List Value}{w w':World}(h:O8 B b bs w)(hb:Below w w w'):O8 B b bs w':=by(have key:∀p,Lib.BuilderAt 120 5 B b p bs w->Lib.BuilderAt 120 5 B b p bs w':=by rintro p⟨M,v,J,D,I⟩;exact⟨M,v,by rw[hb.block b (Lib.BuilderAt.lt ⟨M,v,J,D,I⟩)];exact J,yU D (fun g hg=>hb.block g (va D g hg).2),I⟩);exact h.elim (fun h=>.inl (key _ h)) (fun h=>.inr (key _ h))
def Pg(w:World)(r:Option (List UInt8))(e:Ending)(w':World):Prop:=
 Below w w w'/\match r with
 |some l=>e=.returned (.string ⟨l.toArray⟩)
 |none=>e=cG
def eE(bs:List UInt8)(l:List UInt8):Option (List UInt8):=(cZ (l.length+1) l).map fun x=>bs++x
theorem Cu(bs:List UInt8):eE bs []=some bs:=by show(some []).map _=_;simp
theorem AX(bs:List UInt8)(c:UInt8)(r:List UInt8)(D:c.toNat=92):eE bs (c::r)=(l9 r).bind fun p=>eE (bs++p.1) (r.drop p.2):=by
 unfold eE;rw[cZ,gG D];cases I:l9 r with
 |none=>rfl
 |some p=>simp only[kW,Option.map_map];rw[lm ((c::r).length) ((r.drop p.2).length+1) (r.drop p.2) (by simp only[gO,jH];omega) (by omega)];congr 1;funext x;simp
theorem Cv(bs:List UInt8)(c:UInt8)(r:List UInt8)(D:¬ c.toNat=92)(h:c.toNat=34\/c.toNat=10):eE bs (c::r)=none:=by unfold eE;rw[cZ,gB D,gG h];rfl
theorem AY(bs:List UInt8)(c:UInt8)(r:List UInt8)(D:¬ c.toNat=92)(h:¬ (c.toNat=34\/c.toNat=10)):eE bs (c::r)=eE (bs++[c]) r:=by unfold eE;rw[cZ,gB D,gB h,Option.map_map];rw[lm ((c::r).length) (r.length+1) r (by simp only[gO];omega) (by omega)];congr 1;funext x;simp
theorem ru(s:ByteArray)(k:Nat):(s.extract k s.size).data.toList=s.data.toList.drop k:=by rw[Lib.extract_data];have:s.data.toList.length=s.size:=rfl;rw[gV (by rw[jH];omega)]
theorem yD(s:ByteArray)(hs:s.size<=65536)(w:World):Calls prog 93 #[s] w (Pg w (eE [] s.data.toList)):=by
 obtain⟨R,hR⟩:∃R,R=eE [] s.data.toList:=⟨_,rfl⟩;rw[<-hR];have HR:=hid hR.symm;clear hR;(go_enter func93,ntmps93);go_wp2_with fail;have J:=Lib.fresh_isBuilder 120 5 w;have gj:Below w w (w.alloc (.cells #[.pointer none,.slice none 0 0] 120)):=(gH _ w).alloc (gC _) _;generalize w.alloc (.cells #[.pointer none,.slice none 0 0] 120)=w1 at *;go_loopg [0,4,5,6,7,8] s.size (fun g u0 _ _ _ _ _ wr=>∃(t:ByteArray)(bs:List UInt8),u0=.string t/\t.size<=g/\t.size<=s.size/\bs.length+4*t.size<=4*s.size/\O8 w.heap.size w.heap.size (Lib.byteCells bs) wr/\Below w w wr/\eE bs t.data.toList=R)
 case atStart=>exact⟨s,[],rfl,gC _,gC _,by simp,J,gj,HR.out⟩
 case round=>
  clear J gj HR;obtain⟨t,bs,rfl,hg,gv,gy,J,hB,hq⟩:=hrel;have HQ:=hid hq;have U:=hB.size;clear hq;by_cases ga:t=⟨#[]⟩
  ·subst ga;have h:Hid (R=some bs):=hid (HQ.out.symm.trans (Cu bs));clear HQ;go_wp2_with fail;refine(Ci _ _ bs _ J U).mono ?_;rintro e w4⟨rfl,D⟩;go_wp2_with fail;go_ret;rw[h.out];exact⟨hB.trans D,rfl⟩
  ·(have gx:t.toList.isEmpty=false:=by rw[ao];exact gP ga);(have hn:0<t.size:=by refine Nat.pos_of_ne_zero fun h0=>ga ?_;have hl:t.data.toList=[]:=jS (by have:t.data.toList.length=t.size:=rfl;omega);cases t;simp at hl;subst hl;rfl);obtain⟨c,rr,ge,gg,gm⟩:=pI t 0 hn;have gu:∀W,(Instr.index 9 (.string t) (.int .i64 0)).run prog W=.ok (.int .u8 (aI t 0:Int)) W:=fun W=>lV t 0 hn W;have gz:=ml t 0;have I:Hid (t.data.toList=c::rr):=hid (by rw[<-ge,qu]);have gr:=hid (show(t.extract 1 t.size).data.toList=rr by rw[ru,I.out];rfl);have N:=hid gg;have gq:Hid (t.size=rr.length+1):=hid (by have h1:t.data.toList.length=t.size:=rfl;rw[I.out,gO]at h1;omega);(have p1:(1:Int)<=(t.size:Int):=by omega);(have gh:(t.extract 1 t.size).size<=65536:=by rw[jV];omega);(have gp:(t.extract 1 t.size).size=t.size-1:=by rw[jV];omega);clear ge gg gm;generalize aI t 0=bb at *;by_cases M:bb=92
   ·(have c1:((bb:Int)==92)=true:=by rw[kO];omega);have HD:=hid (show(l9 rr).bind (fun p=>eE (bs++p.1) (rr.drop p.2))=R by rw[<-HQ.out,I.out,AX _ _ _ (by rw[N.out];exact M)]);have gs:=hid gh;clear HQ M gh gp;go_wp2_with fail;refine(LF _ gs.out _).mono ?_;rw[gr.out];cases hp:l9 rr with
    |none=>have h:Hid (R=none):=hid (by rw[<-HD.out,hp];rfl);rintro e w4⟨D,rfl⟩;unfold cG;refine⟨rfl,?_⟩;rw[h.out];exact⟨hB.trans (D.mono U),rfl⟩
    |some p=>
     have hl:=GP hp;have gt:Hid (eE (bs++p.1) (rr.drop p.2)=R):=hid (by rw[<-HD.out,hp];rfl);clear HD;rintro e w4⟨D,rfl⟩;have gn:=J.below D;have gi:=hB.trans (D.mono U);have gl:=gi.size;obtain⟨ps,n⟩:=p;simp only at hl;(have gw:n+1<=t.size:=by have:=gq.out;omega);have q5:IntKind.i64.wrap ((n:Int)+1)=(n:Int)+1:=jC _ (by omega);(have p2:(0:Int)<=(n:Int)+1:=by omega);(have p3:(n:Int)+1<=(t.size:Int):=by omega);(have g0:((n:Int)+1).toNat=n+1:=by omega);have HP:=hid hp;clear hp D;go_wp2_with fail;refine(tY _ _ _ ⟨ps.toArray⟩ _ gn (by show(Lib.byteCells bs).length+ps.toArray.size<=_;simp[Lib.byteCells];omega) gl).mono ?_;rintro e w5⟨⟨v5,rfl⟩,gb,gd⟩;go_wp2_with fail;go_roundg (t.size-(n+1))
     case measure=>omega
     case rel=>exact⟨t.extract (n+1) t.size,bs++ps,rfl,by rw[jV];omega,by rw[jV];omega,by rw[jV,gM];omega,by(have:Lib.byteCells (bs++ps)=Lib.byteCells bs++Lib.strCells ⟨ps.toArray⟩:=by simp[Lib.byteCells,Lib.strCells]);rw[this];exact gb,gi.trans gd,by rw[ru,I.out];exact gt.out⟩
   ·(have c1:((bb:Int)==92)=false:=by rw[gF];omega);by_cases O:bb=34\/bb=10
    ·have h:Hid (R=none):=hid (by rw[<-HQ.out,I.out,Cv _ _ _ (by rw[N.out];exact M) (by rw[N.out];exact O)]);clear HQ M;by_cases yk:bb=34
     ·(have c2:((bb:Int) != 34)=false:=by rw[bne_eq_false_iff_eq];omega);clear yk O;go_wp2_with fail;refine(dN _).mono ?_;rintro e w6⟨rfl,rfl⟩;unfold cG;refine⟨rfl,?_⟩;rw[h.out];exact⟨hB,rfl⟩
     ·(have c2:((bb:Int) != 34)=true:=by rw[vc];omega);(have c3:((bb:Int) != 10)=false:=by rw[bne_eq_false_iff_eq];omega);clear yk O;go_wp2_with fail;refine(dN _).mono ?_;rintro e w6⟨rfl,rfl⟩;unfold cG;refine⟨rfl,?_⟩;rw[h.out];exact⟨hB,rfl⟩
    ·have h:Hid (eE (bs++[c]) rr=R):=hid (by rw[<-HQ.out,I.out,AY _ _ _ (by rw[N.out];exact M) (by rw[N.out];exact O)]);(have c2:((bb:Int) != 34)=true:=by rw[vc];omega);(have c3:((bb:Int) != 10)=true:=by rw[vc];omega);clear HQ M O;go_wp2_with fail;refine(fe _).mono ?_;rintro e w6⟨rfl,rfl⟩;go_wp2_with fail;refine(yB _ _ _ (bb:Int) _ J (by simp[Lib.byteCells];omega) U).mono ?_;rintro e w5⟨rfl,gb,gd⟩;go_wp2_with fail;go_roundg (t.size-1)
     case measure=>omega
     case rel=>exact⟨t.extract 1 t.size,bs++[c],rfl,by rw[jV];omega,by rw[jV];omega,by rw[jV,gM,List.length_singleton];omega,by(have:Lib.byteCells (bs++[c])=Lib.byteCells bs++[.int .u8 (bb:Int)]:=by simp[Lib.byteCells,N.out]);rw[this];exact gb,hB.trans gd,by rw[ru,I.out];exact h.out⟩
theorem Sj(v:Value)(w:World):(Instr.typeAssert (.iface 100 v) 20 100 true).run prog w=.ok (.tuple #[v,.bool true]) w:=by kernel_rfl
attribute [local go_sem] Sj
theorem GQ(p q:Addr)(w:World):
  CallsD prog 91 #[.pointer (some p),.pointer (some q)] .returning w fun e u' w'=>e=.returned (.tuple #[])/\u'=.returning/\w'=w:=by
 refine callsD_of_wpS func91 rfl fun c₀ cs D=>?_;apply wpS_seq;apply wpS_region;simp[wpOpsS,go_sem,recoverD,D,ntmps91,Exit.thenS];apply wpS_seq;apply wpS_region;simp[wpOpsS,go_sem,Exit.thenS];refine wpS_cond (t:=false) (by simp[Act.eval,Array.replicate]) ?_;simp only[gW,jW];refine wpS_of_wp (wp_skip ?_);cases c₀
 simp_all[bodyPostS,results,results91]
theorem rv(s:ByteArray)(W:World):eK (W.drew.alloc (.cells (bytesRow s (grownCap W s.size 0 5)) 5 ((bytesRow s (grownCap W s.size 0 5)).size,(bytesRow s (grownCap W s.size 0 5)).size+1))) (some ⟨W,0,none⟩) (grownCap W s.size 0 5) s:=by refine .inr ⟨W.heap.size,0,rfl,grownCap_ge W s.size 0 _,by show _<(W.heap.push _).size;simp,fun i hi=>?_⟩;rw[kR];(have:(W.drew.alloc (.cells (bytesRow s (grownCap W s.size 0 5)) 5 ((bytesRow s (grownCap W s.size 0 5)).size,(bytesRow s (grownCap W s.size 0 5)).size+1))).heap[W.heap.size]? = some (.cells (bytesRow s (grownCap W s.size 0 5)) 5 ((bytesRow s (grownCap W s.size 0 5)).size,(bytesRow s (grownCap W s.size 0 5)).size+1)):=by show(W.heap.push _)[W.heap.size]? = _;simp);rw[Lib.cell_of_heap this i,bytesRow_at s _ i hi];rfl
theorem dK{P:Program}{ops:Array Oper}{w:World}{Q:Act->Prop}{a:Act}{o:Oper}{rest:List Oper}(v:Value)(D:Region.wanted o (yielded ops a.tmps)=true)(I:(execOp a.eval o).run P w=.ok (.value v) w)
  (h:wpStill P ops w Q rest (a.put o.dst v)):wpStill P ops w Q (o::rest) a:=by rw[wpStill,gG D,Oper.still,I,Oper.stillUpon_value];exact h
theorem Cw(s:ByteArray):(s.extract 1 (s.size-1)).data.toList=s.data.toList.extract 1 (s.size-1):=by rw[Lib.extract_data]
theorem tN(s x:ByteArray)(w:World)(hT:iY w)(h:lT s=some x):
  Calls prog 68 #[s] w fun e w'=>e=.returned (.tuple #[x,.int .i64 0])/\Below w w w':=by
 have g1:∀(fn:Fn)(first cap:Array Value)(w:World),(Instr.makeFunc fn first cap).run prog w=.ok (.func fn first cap) w:=fun _ _ _ _=>rfl;have gw:Below w w ((w.alloc (.cells #[.string ⟨#[]⟩] 9)).alloc (.cells #[.int .i64 0] 29)):=bel;have gt:aq ((w.alloc (.cells #[.string ⟨#[]⟩] 9)).alloc (.cells #[.int .i64 0] 29)) w.heap.size 9 #[.string ⟨#[]⟩]:=(aq.new w _ _).alloc _;have gr:aq ((w.alloc (.cells #[.string ⟨#[]⟩] 9)).alloc (.cells #[.int .i64 0] 29)) (w.heap.size+1) 29 #[.int .i64 0]:=aq.new_at (by simp) _ _;have HT:=hid hT;have hx:(s.size<=65536/\2<=s.size/\d8 s.data.toList=true/\aI s 0=34/\aI s (s.size-1)=34)/\∃l,cZ (s.size+1) (s.data.toList.extract 1 (s.size-1))=some l/\x=⟨l.toArray⟩:=by
  unfold lT at h;split at h
  ·refine⟨‹_›,?_⟩;cases U:cZ (s.size+1) (s.data.toList.extract 1 (s.size-1))with
   |none=>rw[U]at h;cases h
   |some l=>rw[U]at h;injection h with h;exact⟨l,rfl,h.symm⟩
  ·cases h
 obtain⟨⟨gn,g0,hp,h0,hl⟩,l,U,rfl⟩:=hx;have HP:=hid hp;have gx:=hid (show(s.extract 1 (s.size-1)).size<=65536 by rw[jV];omega);(have U:eE [] (s.extract 1 (s.size-1)).data.toList=some l:=by unfold eE;rw[Cw,lm _ (s.size+1) _ (vo _) (by rw[<-Cw];show(s.extract 1 (s.size-1)).size<_;rw[jV];omega),U];rfl);have HQ:=hid (fun W=>yD (s.extract 1 (s.size-1)) gx.out W);rw[U]at HQ;(have ge:decide ((65536:Int)<(s.size:Int))=false:=by rw[gK];omega);(have h2:decide ((2:Int)<=(s.size:Int))=true:=by rw[gR];omega);obtain⟨I,D⟩:∃I,decide ((2:Int)<=(s.size:Int))=I:=⟨_,rfl⟩;have J:=hid (D.symm.trans h2);have HB:=hid D;clear D;have gz:∀W,(Instr.index 9 (.string s) (.int .i64 0)).run prog W=.ok (.int .u8 (aI s 0:Int)) W:=fun W=>lV s 0 (by omega) W;have gy:∀W,(Instr.index 9 (.string s) (.int .i64 ((s.size-1:Nat):Int))).run prog W=.ok (.int .u8 (aI s (s.size-1):Int)) W:=fun W=>lV s (s.size-1) (by omega) W;(have q1:IntKind.i64.wrap ((s.size:Int)-1)=((s.size-1:Nat):Int):=by rw[show(s.size:Int)-1=((s.size-1:Nat):Int)by omega];exact jC _ (by omega));(have p1:(1:Int)<=((s.size-1:Nat):Int):=by omega);(have p2:((s.size-1:Nat):Int)<=(s.size:Int):=by omega);generalize aI s 0=c0 at *;generalize aI s (s.size-1)=cl at *;(have c1:((c0:Int)==34)=true:=by rw[kO];omega);obtain⟨bq,gg⟩:∃bq,((c0:Int)==(cl:Int))=bq:=⟨_,rfl⟩;have gl:Hid (bq=true):=hid (by rw[<-gg,kO];omega);have g2:=hid gn;clear hT h U hp h0 hl;(go_enter_defers func68,ntmps68);go_wp2_with fail;generalize((w.alloc (.cells #[.string ⟨#[]⟩] 9)).alloc (.cells #[.int .i64 0] 29))=w0 at *;clear ge h2;refine wp_region_still_tail 14 (by kernel_rfl) (by kernel_rfl) ?_;simp only[List.take_succ_cons,vx,List.drop_succ_cons,qu];refine dK (.string s) rfl rfl ?_;refine dK (.int .i64 (s.size:Int)) rfl (by go_simp) ?_;refine dK (.bool I) rfl (by rw[<-HB.out];rfl) ?_;refine dK (.bool I) rfl rfl ?_;simp only[Act.put,kH,qa,qb];refine dK (.string s) (by show(some I==some true)=true;rw[J.out];rfl) rfl ?_;simp only[Act.put,kH,qa,qb];refine dK (.int .u8 (c0:Int)) (by show(some I==some true)=true;rw[J.out];rfl) (by go_simp) ?_;simp only[Act.put,kH,qa,qb];refine dK (.string s) (by show(some I==some true)=true;rw[J.out];rfl) rfl ?_;simp only[Act.put,kH,qa,qb];refine dK (.string s) (by show(some I==some true)=true;rw[J.out];rfl) rfl ?_;simp only[Act.put,kH,qa,qb];refine dK (.int .i64 (s.size:Int)) (by show(some I==some true)=true;rw[J.out];rfl) (by go_simp) ?_;simp only[Act.put,kH,qa,qb];refine dK (.int .i64 ((s.size-1:Nat):Int)) (by show(some I==some true)=true;rw[J.out];rfl) (by go_simp) ?_;simp only[Act.put,kH,qa,qb];refine dK (.int .u8 (cl:Int)) (by show(some I==some true)=true;rw[J.out];rfl) (by go_simp) ?_;simp only[Act.put,kH,qa,qb];refine dK (.bool bq) (by show(some I==some true)=true;rw[J.out];rfl) (by go_simp) ?_;simp only[Act.put,kH,qa,qb];refine dK (.bool bq) rfl (by rw[J.out];rfl) ?_;refine dK (.bool bq) rfl rfl ?_;refine wpStill_nil ?_;simp only[Act.put,kH,qa,qb];have gk:=gt.drew;have gi:=gr.drew;have N:=gw.drew;have O:=N.size;have h3:=gl.out;clear HB J gg gl;subst h3;have gp:=run_bytes_of_string (P:=prog) w0.drew 9 27 5 s underlying9 underlying27 underlying5;go_wp2_with fail;clear gp;refine((rv s w0.drew).wrong (HT.out.below (N.drew.alloc O _)) (by omega) HP.out).mono ?_;rintro e w2⟨rfl,D⟩;have gj:=(gk.drew.alloc _).below D (by have:=gk.lt;show w.heap.size<(w0.heap.push _).size;rw[Array.size_push];exact Nat.lt_succ_of_lt this);have gh:=(gi.drew.alloc _).below D (by have:=gi.lt;show w.heap.size+1<(w0.heap.push _).size;rw[Array.size_push];exact Nat.lt_succ_of_lt this);have gd:=(N.drew.alloc O _).trans (D.mono (N.drew.alloc O _).size);have gm:=gd.size;clear D;go_wp2_with fail;refine(fe _).mono ?_;rintro e w3⟨rfl,rfl⟩;go_wp2_with fail;refine(HQ.out _).mono ?_;rintro e w4⟨M,rfl⟩;have gb:=gj.bl M;have ga:=gh.bl M;have gv:=gd.trans (M.mono gm);have x0:=ce gb;have x1:=ce ga;have xf:=gb.frozen 0;have yf:=ga.frozen 0;clear M gj gh gd;go_wp2_with fail;have gs:aq ((w4.setCell ⟨w,0,none⟩ (.string ⟨l.toArray⟩)).setCell ⟨w.heap.size+1,0,none⟩ (.int .i64 0)) w.heap.size 9 #[.string ⟨l.toArray⟩]:=(show aq (w4.setCell ⟨w,0,none⟩ (.string ⟨l.toArray⟩)) w.heap.size 9 #[.string ⟨l.toArray⟩]by simpa using(gb).set_ 0 (.string ⟨l.toArray⟩)).far (p:=⟨w.heap.size+1,0,none⟩) (by show w.heap.size≠w.heap.size+1;omega) (.int .i64 0);(have gq:aq ((w4.setCell ⟨w,0,none⟩ (.string ⟨l.toArray⟩)).setCell ⟨w.heap.size+1,0,none⟩ (.int .i64 0)) (w.heap.size+1) 29 #[.int .i64 0]:=by simpa using((ga).far (p:=⟨w,0,none⟩) (by show w.heap.size+1≠w.heap.size;omega) (.string ⟨l.toArray⟩)).set_ 0 (.int .i64 0));have gu:=((gv).setCell (p:=⟨w,0,none⟩) (gC _) (.string ⟨l.toArray⟩)).setCell (p:=⟨w.heap.size+1,0,none⟩) (jN _) (.int .i64 0);generalize((w4.setCell ⟨w,0,none⟩ (.string ⟨l.toArray⟩)).setCell ⟨w.heap.size+1,0,none⟩ (.int .i64 0))=w8 at *;clear x0 x1 xf yf;refine vu (f:=91) (args:=#[w,.pointer (some ⟨w.heap.size+1,0,none⟩)]) (by simp) (by simp[go_sem]) ?_;refine(GQ _ _ _).mono ?_;rintro e u' w9⟨rfl,rfl,rfl⟩;have z0:=ce gs;have z1:=ce gq;simp[Leaves,settle,results,results68,go_sem,z0,z1];exact gu
end
end Go.Proofs.YteialcjaiocjdaaGreatDoor
