/-
  Parts of the proof: Lpart Lquot Lcatch. By an AI agent.
-/
import Derived.Test.YtiebcdeafofgdaaGreatDoorJ20
import Derived.Test.YtiebcdeafofgdaaGreatDoorJ18
import Derived.Test.YtiebcdeafofgdaaGreatDoorJ19
import Derived.Deep.RegionLaw
import Derived.Maps.OwnOps
import Derived.BigQuiet
import Derived.Defers
import Derived.Recover
open Go.Proofs.Tryz
set_option maxRecDepth 100000
set_option maxHeartbeats 8000000
namespace Go.Proofs.YtiebcdeafofgdaaGreatDoor
section
open Go.RowKit Go.Lib Go.Proofs
attribute [local go_sem ↓] Go.wp_at_zero Go.wp_at_succ
theorem kV:type_of% @Option.bind_some:=@Option.bind_some
theorem vt:type_of% @Nat.le_of_ble_eq_true:=@Nat.le_of_ble_eq_true
theorem DO{B:Nat}{w wk wl:World}{b:Nat}(h:Below B w wk)(D:wk.grownBy wl (some b))(hb:B<=b)(hs:B<=wk.heap.size):Below B w wl:=
 h.trans ⟨D.os,D.tape,D.output,D.size,fun k hk=>D.block k (by omega) (fun e=>by injection e with e;omega)⟩
def D9:DataW Unit:=DL (.map []) ER
theorem mi(w:World):Calls prog 194 #[] w fun e w'=>∃b,e=.returned (.map (some b))/\w'.ownsMap prog 5 (plainElem prog 5) b 9 D9/\w.heap.size<=b/\Below w w w':=by have I :=@run_makeMap prog;have D:=World.ownsMap_made (H:=Unit) w prog 5 (plainElem prog 5);have M:Below w w (w.alloc (.map #[] 0)):=(gG _ _).alloc (gA _) _;(go_enter func194,ntmps194);go_wp2_with (refine rU _ rfl (.tmp 1) _ _ rfl (by decide) (by decide) w.heap.size _ _ rfl (by assumption) (by decide) ?_;intro w1 hown1 hg1;have J:=DO (w:=w) (by assumption) hg1 (gA _) (Below.size (by assumption));clear hg1);go_ret;exact⟨_,rfl,by assumption,gA _,by assumption⟩
theorem Rn(c:Nat):D9.atKey (.int .u8 (c:Int)) (.lit (.int .u8 0))=.lit (.int .u8 (((eE c).getD 0:Nat):Int))/\Maps.has D9 (.int .u8 (c:Int))=(eE c).isSome:=by
 by_cases h1:c=97
 ·subst h1;exact⟨rfl,rfl⟩
 by_cases h2:c=98
 ·subst h2;exact⟨rfl,rfl⟩
 by_cases U:c=102
 ·subst U;exact⟨rfl,rfl⟩
 by_cases O:c=110
 ·subst O;exact⟨rfl,rfl⟩
 by_cases N:c=114
 ·subst N;exact⟨rfl,rfl⟩
 by_cases M:c=116
 ·subst M;exact⟨rfl,rfl⟩
 by_cases J:c=118
 ·subst J;exact⟨rfl,rfl⟩
 by_cases I:c=92
 ·subst I;exact⟨rfl,rfl⟩
 by_cases h9:c=34
 ·subst h9;exact⟨rfl,rfl⟩
 (have hs:eE c=none:=by unfold eE;simp only[h1,h2,U,O,N,M,J,I,h9,kI]);rw[hs];have D:∀k:Int,(c:Int)≠k->(Lit.int .u8 (c:Int))≠.int .u8 k:=fun k h e=>h (by injection e);unfold D9 ER;simp only[DL];constructor
 ·(repeat rw[Maps.atKey_put_other (D _ (by omega))]);rfl
 ·(repeat rw[Maps.has_put_other (D _ (by omega))]);rfl
theorem oS(b:Nat)(w:World)(I:w.ownsMap prog 5 (plainElem prog 5) b 9 D9)(c:Nat)(h:c<256):
  (Instr.lookup 156 (.map (some b)) (.int .u8 (c:Int)) true).run prog w=.ok (.tuple #[.int .u8 (((eE c).getD 0:Nat):Int),.bool (eE c).isSome]) w:=by(have J:(Lit.int .u8 (c:Int)).wf=true:=by simp[Lit.wf,IntKind.min,IntKind.max,IntKind.signed,IntKind.bits];omega);have U:(zeroValue 5).run prog w=.ok (.int .u8 0) w:=zeroValue5 w;obtain⟨v,ps,D,O⟩:=I.look_ok (Maps.int_keyed underlying5) underlying156 U (plainElem_int (H:=Unit) underlying5 (by decide)) (Maps.keyOf_int_mk underlying5 J);rw[(Rn c).1]at O;rw[(Rn c).2]at D;generalize(eE c).getD 0=vv at *;generalize(eE c).isSome=sb at *;obtain⟨c',rfl,M,_⟩:=plainElem_int_inv underlying5 O;have N:=jM Prod.fst M;simp only at N;simp only[DataW.lit.injEq,Lit.int.injEq,true_and]at N;subst N;exact D
theorem uy(radix:Nat):∀(l:List UInt8)(v x:Nat),fo radix l v=some x->x<(v+1)*radix^l.length
 |[],v,x,h=>by rw[fo]at h;injection h with h;simp;omega
 | c::r,v,x,h=>by
  rw[fo]at h;cases hd:dD c.toNat with
  |none=>rw[hd]at h;cases h
  |some d=>
   rw[hd]at h;simp only at h;split at h
   ·rename_i D;have:=uy radix r _ _ h;refine kH this ?_;rw[gS,Nat.pow_succ,Nat.mul_comm (radix^r.length) radix,<-Nat.mul_assoc];refine Nat.mul_le_mul_right _ ?_;rw[Nat.add_mul,qC];omega
   ·cases h
theorem nU{l:List UInt8}{n radix x m:Nat}(h:cw l n radix=some x)(D:radix^n<=m):x<m:=by
 unfold cw at h;split at h
 ·have:=uy radix _ _ _ h;rw[qX,Nat.min_eq_left (by assumption)]at this;omega
 ·cases h
theorem DP{c x:Nat}(h:eE c=some x):x<=255:=by unfold eE at h;(repeat' split at h);all_goals first|(injection h with h;omega)|cases h
theorem Lb(w7:World)(g7 c7:Nat)(b:Int)(D:0<=b)(hb:b<=255)(h:w7.cell? ⟨g7,0,none⟩=some (.int .u8 b)):(convert 27 9 (.slice (some ⟨g7,0,none⟩) 1 c7)).run prog w7=.ok (.string ⟨#[UInt8.ofNat b.toNat]⟩) w7:=by refine run_convert_bytes_back (P:=prog) w7 27 9 5 ⟨g7,0,none⟩ c7 [UInt8.ofNat b.toNat] underlying27 underlying5 underlying9 (fun j hj=>?_);(have:j=0:=by simp at hj;omega);subst this;rw[show w7.cell? (Addr.add ⟨g7,0,none⟩ 0)=some (.int .u8 b)from h];simp;rw[Int.emod_eq_of_lt (by omega) (by omega)];omega
theorem l5(r:Int):Lib.validRune r=Utf8.valid r:=by unfold Lib.validRune Utf8.valid;rw[kQ];simp;omega
def rh(c:UInt8)(r:List UInt8):Option (List UInt8×Nat):=
 if c.toNat=120 then(cw r 2 16).map fun v=>([UInt8.ofNat v],3)
 else if c.toNat=117 then(cw r 4 16).bind fun v=>if Utf8.valid (v:Int)=true then some ((Utf8.encode (v:Int)).data.toList,5)else none
 else if c.toNat=85 then(cw r 8 16).bind fun v=>if Utf8.valid (v:Int)=true then some ((Utf8.encode (v:Int)).data.toList,9)else none
 else(cw (c::r) 3 8).bind fun v=>if v<=255 then some ([UInt8.ofNat v],3)else none
theorem uz(c:UInt8)(r:List UInt8)(h:eE c.toNat=none):lO (c::r)=rh c r:=by rw[lO,h];rfl
def Lc(w:World)(r:Option (List UInt8×Nat))(e:Ending)(w':World):Prop:=
 Below w w w'/\match r with
 |some p=>e=.returned (.tuple #[.string ⟨p.1.toArray⟩,.int .i64 (p.2:Int)])
 |none=>e=bO
theorem Ld(s:ByteArray)(hs:s.size<=65536)(w:World):Calls prog 145 #[s] w (Lc w (lO s.data.toList)):=by
 obtain⟨R,hR⟩:∃R,R=lO s.data.toList:=⟨_,rfl⟩;rw[<-hR];have HR:=hid hR;clear hR;have gt:s.data.toList.length=s.size:=rfl;by_cases hn:s.size=0
 ·(have gw:s=⟨#[]⟩:=by have hl:s.data.toList=[]:=jQ (by omega);cases s;simp at hl;subst hl;rfl);subst gw;have HN:Hid (R=none):=hid HR.out;clear HR gt hn;(go_enter func145,ntmps145);go_wp2_with fail;refine(cv _).mono ?_;rintro e w2⟨rfl,rfl⟩;unfold bO;refine⟨rfl,?_⟩;rw[HN.out];exact⟨gG _ _,rfl⟩
 (have g1:s.toList.isEmpty=false:=by rw[aq];exact gM (by rintro rfl;exact hn rfl));obtain⟨c,rr,gr,gv,gq⟩:=lZ s 0 (by omega);have g0:∀W,(Instr.index 9 (.string s) (.int .i64 0)).run prog W=.ok (.int .u8 (ac s 0:Int)) W:=fun W=>dL s 0 (by omega) W;have gl:=ed s 0;have gy:Hid (s.data.toList=c::rr):=hid (by rw[<-gr,qb]);have HC:=hid (show R=lO (c::rr)by rw[HR.out,<-gr,qb]);have gg:=hid gv;have gb:=hid (show(s.extract 1 s.size).data.toList=rr by rw[vA,<-gq,jA (by rw[gq,gY];omega)]);clear HR gr gv gq gt;generalize ac s 0=bb at *;(go_enter func145,ntmps145);go_wp2_with fail;refine(cZ _).mono ?_;rintro e w2⟨rfl,rfl⟩;cases gk:eE bb with
 | some x=>
  have HS:=hid gk;clear gk;go_wp2_with fail;go_region_law (first
   |(go_simp;(go_at_call 194);refine(mi _).mono ?_;rintro e w3⟨b,rfl,D,gd,I⟩;have M:=(gG w.heap.size w).drew.trans I;have ga:=M.size;have J:=oS b w3 D bb gl;rw[HS.out]at J;simp only[vz,Option.isSome_some]at J;clear D I gd))
  all_goals have HX:=hid (show R=some ([UInt8.ofNat x],1)by rw[HC.out,lO,gg.out,HS.out]);(have gi:(0:Int)<=(x:Int):=by omega);(have gh:(x:Int)<=255:=by have:=DP HS.out;omega);have gu:=fun W g7 c7 h=>Lb W g7 c7 (x:Int) gi gh h;clear HC gb J;go_wp2_with fail;go_ret2;rw[HX.out];exact⟨M.alloc ga _,rfl⟩
 | none=>
  have HS:=hid gk;have HP:Hid (R=rh c rr):=hid (by rw[HC.out,uz _ _ (by rw[gg.out];exact gk)]);have ge:=hid gy.out;(have gz:decide ((1:Int)<=(s.size:Int))=true:=by rw[gK];omega);clear gk HC;by_cases gm:bb=120
  ·have HD:=hid (show R=(cw rr 2 16).map fun v=>([UInt8.ofNat v],3)by rw[HP.out,rh,gg.out,gm];rfl);(have c1:((bb:Int)==120)=true:=by rw[kF];omega);clear HP ge gm;go_wp2_with fail;go_region_law (first
    |(go_simp;(go_at_call 194);refine(mi _).mono ?_;rintro e w3⟨b,rfl,D,gd,I⟩;have M:=(gG w.heap.size w).drew.trans I;have ga:=M.size;have J:=oS b w3 D bb gl;rw[HS.out]at J;simp only[Option.getD_none,qo]at J;clear D I gd))
   all_goals
    clear J;go_wp2_with fail;refine(nT _ 2 16 (by decide) (by decide) _).mono ?_;rw[gb.out];cases hd:cw rr 2 16 with
    |none=>have HX:Hid (R=none):=hid (by rw[HD.out,hd];rfl);rintro e w4⟨U,rfl⟩;unfold bO;refine⟨rfl,?_⟩;rw[HX.out];exact⟨M.trans (U.mono ga),rfl⟩
    |some v=>have hv:=nU (m:=256) hd (by decide);rw[hd]at HD;clear hd;rintro e w4⟨U,rfl⟩;have N:=M.trans (U.mono ga);have gj:=N.size;have HX:=hid (show R=some ([UInt8.ofNat v],3)from HD.out);have q4:IntKind.u8.wrap (v:Int)=(v:Int):=IntWalk.u8_in _ (by omega);(have gi:(0:Int)<=(v:Int):=by omega);(have gh:(v:Int)<=255:=by omega);have gu:=fun W g7 c7 h=>Lb W g7 c7 (v:Int) gi gh h;clear gb HD hv;go_wp2_with fail;go_ret2;rw[HX.out];exact⟨N.alloc gj _,rfl⟩
  by_cases gn:bb=117
  ·have HD:Hid (R=(cw rr 4 16).bind fun v=>if Utf8.valid (v:Int)=true then some ((Utf8.encode (v:Int)).data.toList,5)else none):=hid (by rw[HP.out,rh,gg.out,gn];rfl);(have c1:((bb:Int)==120)=false:=by rw[gC];omega);(have c2:((bb:Int)==117)=true:=by rw[kF];omega);(have c3:((bb:Int)==85)=false:=by rw[gC];omega);clear HP ge gn;go_wp2_with fail;go_region_law (first
    |(go_simp;(go_at_call 194);refine(mi _).mono ?_;rintro e w3⟨b,rfl,D,gd,I⟩;have M:=(gG w.heap.size w).drew.trans I;have ga:=M.size;have J:=oS b w3 D bb gl;rw[HS.out]at J;simp only[Option.getD_none,qo]at J;clear D I gd))
   all_goals
    clear J;go_wp2_with fail;refine(nT _ 4 16 (by decide) (by decide) _).mono ?_;rw[gb.out];cases hd:cw rr 4 16 with
    |none=>have HX:Hid (R=none):=hid (by rw[HD.out,hd];rfl);rintro e w4⟨U,rfl⟩;unfold bO;refine⟨rfl,?_⟩;rw[HX.out];exact⟨M.trans (U.mono ga),rfl⟩
    | some v=>
     have hv:=nU (m:=65536) hd (by decide);rw[hd]at HD;clear hd;rintro e w4⟨U,rfl⟩;have N:=M.trans (U.mono ga);have gj:=N.size;by_cases gx:v<=1114111
     ·(have e0:decide ((v:Int)<=1114111)=true:=by rw[gK];omega);have q4:IntKind.i32.wrap (v:Int)=(v:Int):=qw _ (by omega);cases O:Utf8.valid (v:Int)with
      |true=>have HX:=hid (show R=some ((Utf8.encode (v:Int)).data.toList,5)by rw[HD.out,kV,gF O]);clear gb HD hv;go_wp2_with fail;refine(lw (v:Int) _).mono ?_;rw[l5,O];rintro e w5⟨rfl,rfl⟩;go_wp2_with fail;refine(cZ _).mono ?_;rintro e w6⟨rfl,rfl⟩;go_wp2_with fail;go_ret2;rw[HX.out];exact⟨N,by generalize Utf8.encode (v:Int)=en;cases en;rfl⟩
      |false=>have HX:Hid (R=none):=hid (by rw[HD.out,kV,d5 (by rw[O];decide)]);clear gb HD hv;go_wp2_with fail;refine(lw (v:Int) _).mono ?_;rw[l5,O];rintro e w5⟨rfl,rfl⟩;go_wp2_with fail;refine(cv _).mono ?_;rintro e w6⟨rfl,rfl⟩;unfold bO;refine⟨rfl,?_⟩;rw[HX.out];exact⟨N,rfl⟩
     ·(have e0:decide ((v:Int)<=1114111)=false:=by rw[gJ];omega);(have O:Utf8.valid (v:Int)=false:=by unfold Utf8.valid;simp;omega);have HX:Hid (R=none):=hid (by rw[HD.out,kV,d5 (by rw[O];decide)]);clear gb HD hv O;go_wp2_with fail;refine(cv _).mono ?_;rintro e w6⟨rfl,rfl⟩;unfold bO;refine⟨rfl,?_⟩;rw[HX.out];exact⟨N,rfl⟩
  by_cases gs:bb=85
  ·have HD:Hid (R=(cw rr 8 16).bind fun v=>if Utf8.valid (v:Int)=true then some ((Utf8.encode (v:Int)).data.toList,9)else none):=hid (by rw[HP.out,rh,gg.out,gs];rfl);(have c1:((bb:Int)==120)=false:=by rw[gC];omega);(have c2:((bb:Int)==117)=false:=by rw[gC];omega);(have c3:((bb:Int)==85)=true:=by rw[kF];omega);clear HP ge gs;go_wp2_with fail;go_region_law (first
    |(go_simp;(go_at_call 194);refine(mi _).mono ?_;rintro e w3⟨b,rfl,D,gd,I⟩;have M:=(gG w.heap.size w).drew.trans I;have ga:=M.size;have J:=oS b w3 D bb gl;rw[HS.out]at J;simp only[Option.getD_none,qo]at J;clear D I gd))
   all_goals
    clear J;go_wp2_with fail;refine(nT _ 8 16 (by decide) (by decide) _).mono ?_;rw[gb.out];cases hd:cw rr 8 16 with
    |none=>have HX:Hid (R=none):=hid (by rw[HD.out,hd];rfl);rintro e w4⟨U,rfl⟩;unfold bO;refine⟨rfl,?_⟩;rw[HX.out];exact⟨M.trans (U.mono ga),rfl⟩
    | some v=>
     have hv:=nU (m:=4294967296) hd (by decide);rw[hd]at HD;clear hd;rintro e w4⟨U,rfl⟩;have N:=M.trans (U.mono ga);have gj:=N.size;by_cases gx:v<=1114111
     ·(have e0:decide ((v:Int)<=1114111)=true:=by rw[gK];omega);have q4:IntKind.i32.wrap (v:Int)=(v:Int):=qw _ (by omega);cases O:Utf8.valid (v:Int)with
      |true=>have HX:=hid (show R=some ((Utf8.encode (v:Int)).data.toList,9)by rw[HD.out,kV,gF O]);clear gb HD hv;go_wp2_with fail;refine(lw (v:Int) _).mono ?_;rw[l5,O];rintro e w5⟨rfl,rfl⟩;go_wp2_with fail;refine(cZ _).mono ?_;rintro e w6⟨rfl,rfl⟩;go_wp2_with fail;go_ret2;rw[HX.out];exact⟨N,by generalize Utf8.encode (v:Int)=en;cases en;rfl⟩
      |false=>have HX:Hid (R=none):=hid (by rw[HD.out,kV,d5 (by rw[O];decide)]);clear gb HD hv;go_wp2_with fail;refine(lw (v:Int) _).mono ?_;rw[l5,O];rintro e w5⟨rfl,rfl⟩;go_wp2_with fail;refine(cv _).mono ?_;rintro e w6⟨rfl,rfl⟩;unfold bO;refine⟨rfl,?_⟩;rw[HX.out];exact⟨N,rfl⟩
     ·(have e0:decide ((v:Int)<=1114111)=false:=by rw[gJ];omega);(have O:Utf8.valid (v:Int)=false:=by unfold Utf8.valid;simp;omega);have HX:Hid (R=none):=hid (by rw[HD.out,kV,d5 (by rw[O];decide)]);clear gb HD hv O;go_wp2_with fail;refine(cv _).mono ?_;rintro e w6⟨rfl,rfl⟩;unfold bO;refine⟨rfl,?_⟩;rw[HX.out];exact⟨N,rfl⟩
  have HD:Hid (R=(cw (c::rr) 3 8).bind fun v=>if v<=255 then some ([UInt8.ofNat v],3)else none):=hid (by rw[HP.out,rh,gg.out,d5 gm,d5 gn,d5 gs]);(have c1:((bb:Int)==120)=false:=by rw[gC];omega);(have c2:((bb:Int)==117)=false:=by rw[gC];omega);(have c3:((bb:Int)==85)=false:=by rw[gC];omega);clear HP;go_wp2_with fail;go_region_law (first
   |(go_simp;(go_at_call 194);refine(mi _).mono ?_;rintro e w3⟨b,rfl,D,gd,I⟩;have M:=(gG w.heap.size w).drew.trans I;have ga:=M.size;have J:=oS b w3 D bb gl;rw[HS.out]at J;simp only[Option.getD_none,qo]at J;clear D I gd))
  all_goals
   clear J;go_wp2_with fail;refine(nT _ 3 8 (by decide) (by decide) _).mono ?_;rw[ge.out];cases hd:cw (c::rr) 3 8 with
   |none=>have HX:Hid (R=none):=hid (by rw[HD.out,hd];rfl);rintro e w4⟨U,rfl⟩;unfold bO;refine⟨rfl,?_⟩;rw[HX.out];exact⟨M.trans (U.mono ga),rfl⟩
   |some v=>
    have hv:=nU (m:=512) hd (by decide);rw[hd]at HD;clear hd;rintro e w4⟨U,rfl⟩;have N:=M.trans (U.mono ga);have gj:=N.size;by_cases gp:v<=255
    ·(have e0:decide ((v:Int)<=255)=true:=by rw[gK];omega);have HX:=hid (show R=some ([UInt8.ofNat v],3)by rw[HD.out,kV,gF gp]);have q4:IntKind.u8.wrap (v:Int)=(v:Int):=IntWalk.u8_in _ (by omega);(have gi:(0:Int)<=(v:Int):=by omega);(have gh:(v:Int)<=255:=by omega);have gu:=fun W g7 c7 h=>Lb W g7 c7 (v:Int) gi gh h;clear gb HD hv ge;go_wp2_with fail;refine(cZ _).mono ?_;rintro e w5⟨rfl,rfl⟩;go_wp2_with fail;go_ret2;rw[HX.out];exact⟨N.alloc gj _,rfl⟩
    ·(have e0:decide ((v:Int)<=255)=false:=by rw[gJ];omega);have HX:Hid (R=none):=hid (by rw[HD.out,kV,d5 gp]);clear gb HD hv ge;go_wp2_with fail;refine(cv _).mono ?_;rintro e w5⟨rfl,rfl⟩;unfold bO;refine⟨rfl,?_⟩;rw[HX.out];exact⟨N,rfl⟩
theorem DQ(v:Int):(Utf8.encode v).data.toList.length<=4:=by unfold Utf8.encode;dsimp only;(repeat' split);all_goals exact vt rfl
theorem mF{l:List UInt8}{n radix x:Nat}(h:cw l n radix=some x):n<=l.length:=by
 unfold cw at h;split at h
 ·assumption
 ·cases h
theorem Gs{l:List UInt8}{p:List UInt8×Nat}(h:lO l=some p):p.1.length<=4/\1<=p.2/\p.2<=l.length:=by
 (have key:∀(a:List UInt8)(n m:Nat),some (a,n)=some p->a.length<=4->1<=n->n<=m->p.1.length<=4/\1<=p.2/\p.2<=m:=by intro a n m h N M J;rw[<-Option.some.inj h];exact⟨N,M,J⟩);have O:=DQ;cases l with
 |nil=>cases h
 | cons c r=>
  rw[gS];cases hs:eE c.toNat with
  |some v=>rw[lO,hs]at h;exact key _ _ _ h (vt rfl) (gA _) (Nat.succ_le_succ (gP _))
  | none=>
   rw[uz c r hs,rh]at h;clear hs;generalize c.toNat=n at h;by_cases N:n=120
   ·rw[gF N]at h;obtain⟨v,hd,h⟩:=Option.map_eq_some_iff.mp h;have I:=mF hd;exact key _ _ _ (jM some h) (vt rfl) (by omega) (by omega)
   ·rw[d5 N]at h;by_cases M:n=117
    ·rw[gF M]at h;obtain⟨v,hd,h⟩:=Option.bind_eq_some_iff.mp h;have I:=mF hd;by_cases D:Utf8.valid (v:Int)=true
     ·rw[gF D]at h;exact key _ _ _ h (O _) (by omega) (by omega)
     ·rw[d5 D]at h;cases h
    ·rw[d5 M]at h;by_cases J:n=85
     ·rw[gF J]at h;obtain⟨v,hd,h⟩:=Option.bind_eq_some_iff.mp h;have I:=mF hd;by_cases D:Utf8.valid (v:Int)=true
      ·rw[gF D]at h;exact key _ _ _ h (O _) (by omega) (by omega)
      ·rw[d5 D]at h;cases h
     ·rw[d5 J]at h;obtain⟨v,hd,h⟩:=Option.bind_eq_some_iff.mp h;have I:=mF hd;rw[gS]at I;by_cases D:v<=255
      ·rw[gF D]at h;exact key _ _ _ h (vt rfl) (by omega) (by omega)
      ·rw[d5 D]at h;cases h
theorem iN:∀(g g':Nat)(l:List UInt8),l.length<g->l.length<g'->dn g l=dn g' l
 |0,_,_,h,_=>absurd h (Nat.not_lt_zero _)
 |_+1,0,_,_,h=>absurd h (Nat.not_lt_zero _)
 |g+1,g'+1,[],_,_=>by rw[dn,dn]
 | g+1,g'+1,c::r,h,h'=>by
  rw[dn,dn];simp only[gS]at h h';split
  ·cases D:lO r with
   |none=>rfl
   |some p=>simp only[kV];rw[iN g g' (r.drop p.2) (by rw[gY];omega) (by rw[gY];omega)]
  ·split
   ·rfl
   ·rw[iN g g' r (by omega) (by omega)]
theorem OF.below{B b:Nat}{bs:List Value}{w w':World}(h:OF B b bs w)(hb:Below w w w'):OF B b bs w':=by(have key:∀p,Lib.BuilderAt 129 5 B b p bs w->Lib.BuilderAt 129 5 B b p bs w':=by rintro p⟨M,v,J,D,I⟩;exact⟨M,v,by rw[hb.block b (Lib.BuilderAt.lt ⟨M,v,J,D,I⟩)];exact J,yw D (fun g hg=>hb.block g (vo D g hg).2),I⟩);exact h.elim (fun h=>.inl (key _ h)) (fun h=>.inr (key _ h))
def OQ(w:World)(r:Option (List UInt8))(e:Ending)(w':World):Prop:=
 Below w w w'/\match r with
 |some l=>e=.returned (.string ⟨l.toArray⟩)
 |none=>e=bO
def d6(bs:List UInt8)(l:List UInt8):Option (List UInt8):=(dn (l.length+1) l).map fun x=>bs++x
theorem B4(bs:List UInt8):d6 bs []=some bs:=by show(some []).map _=_;simp
theorem Av(bs:List UInt8)(c:UInt8)(r:List UInt8)(D:c.toNat=92):d6 bs (c::r)=(lO r).bind fun p=>d6 (bs++p.1) (r.drop p.2):=by
 unfold d6;rw[dn,gF D];cases I:lO r with
 |none=>rfl
 |some p=>simp only[kV,Option.map_map];rw[iN ((c::r).length) ((r.drop p.2).length+1) (r.drop p.2) (by simp only[gS,gY];omega) (by omega)];congr 1;funext x;simp
theorem B5(bs:List UInt8)(c:UInt8)(r:List UInt8)(D:¬ c.toNat=92)(h:c.toNat=34\/c.toNat=10):d6 bs (c::r)=none:=by unfold d6;rw[dn,d5 D,gF h];rfl
theorem Aw(bs:List UInt8)(c:UInt8)(r:List UInt8)(D:¬ c.toNat=92)(h:¬ (c.toNat=34\/c.toNat=10)):d6 bs (c::r)=d6 (bs++[c]) r:=by unfold d6;rw[dn,d5 D,d5 h,Option.map_map];rw[iN ((c::r).length) (r.length+1) r (by simp only[gS];omega) (by omega)];congr 1;funext x;simp
theorem ri(s:ByteArray)(k:Nat):(s.extract k s.size).data.toList=s.data.toList.drop k:=by rw[vA];have:s.data.toList.length=s.size:=rfl;rw[jA (by rw[gY];omega)]
theorem yi(s:ByteArray)(hs:s.size<=65536)(w:World):Calls prog 114 #[s] w (OQ w (d6 [] s.data.toList)):=by
 obtain⟨R,hR⟩:∃R,R=d6 [] s.data.toList:=⟨_,rfl⟩;rw[<-hR];have HR:=hid hR.symm;clear hR;(go_enter func114,ntmps114);go_wp2_with fail;have J:=Lib.fresh_isBuilder 129 5 w;have gj:Below w w (w.alloc (.cells #[.pointer none,.slice none 0 0] 129)):=(gG _ w).alloc (gA _) _;generalize w.alloc (.cells #[.pointer none,.slice none 0 0] 129)=w1 at *;go_loopg [0,4,5,6,7,8] s.size (fun g u0 _ _ _ _ _ wr=>∃(t:ByteArray)(bs:List UInt8),u0=.string t/\t.size<=g/\t.size<=s.size/\bs.length+4*t.size<=4*s.size/\OF w.heap.size w.heap.size (Lib.byteCells bs) wr/\Below w w wr/\d6 bs t.data.toList=R)
 case atStart=>exact⟨s,[],rfl,gA _,gA _,by simp,J,gj,HR.out⟩
 case round=>
  clear J gj HR;obtain⟨t,bs,rfl,hg,gv,gy,J,hB,hq⟩:=hrel;have HQ:=hid hq;have U:=hB.size;clear hq;by_cases ga:t=⟨#[]⟩
  ·subst ga;have h:Hid (R=some bs):=hid (HQ.out.symm.trans (B4 bs));clear HQ;go_wp2_with fail;refine(BQ _ _ bs _ J U).mono ?_;rintro e w4⟨rfl,D⟩;go_wp2_with fail;go_ret;rw[h.out];exact⟨hB.trans D,rfl⟩
  ·(have gx:t.toList.isEmpty=false:=by rw[aq];exact gM ga);(have hn:0<t.size:=by refine Nat.pos_of_ne_zero fun h0=>ga ?_;have hl:t.data.toList=[]:=jQ (by have:t.data.toList.length=t.size:=rfl;omega);cases t;simp at hl;subst hl;rfl);obtain⟨c,rr,ge,gg,gm⟩:=lZ t 0 hn;have gu:∀W,(Instr.index 9 (.string t) (.int .i64 0)).run prog W=.ok (.int .u8 (ac t 0:Int)) W:=fun W=>dL t 0 hn W;have gz:=ed t 0;have I:Hid (t.data.toList=c::rr):=hid (by rw[<-ge,qb]);have gr:=hid (show(t.extract 1 t.size).data.toList=rr by rw[ri,I.out];rfl);have N:=hid gg;have gq:Hid (t.size=rr.length+1):=hid (by have h1:t.data.toList.length=t.size:=rfl;rw[I.out,gS]at h1;omega);(have p1:(1:Int)<=(t.size:Int):=by omega);(have gh:(t.extract 1 t.size).size<=65536:=by rw[jW];omega);(have gp:(t.extract 1 t.size).size=t.size-1:=by rw[jW];omega);clear ge gg gm;generalize ac t 0=bb at *;by_cases M:bb=92
   ·(have c1:((bb:Int)==92)=true:=by rw[kF];omega);have HD:=hid (show(lO rr).bind (fun p=>d6 (bs++p.1) (rr.drop p.2))=R by rw[<-HQ.out,I.out,Av _ _ _ (by rw[N.out];exact M)]);have gs:=hid gh;clear HQ M gh gp;go_wp2_with fail;refine(Ld _ gs.out _).mono ?_;rw[gr.out];cases hp:lO rr with
    |none=>have h:Hid (R=none):=hid (by rw[<-HD.out,hp];rfl);rintro e w4⟨D,rfl⟩;unfold bO;refine⟨rfl,?_⟩;rw[h.out];exact⟨hB.trans (D.mono U),rfl⟩
    |some p=>
     have hl:=Gs hp;have gt:Hid (d6 (bs++p.1) (rr.drop p.2)=R):=hid (by rw[<-HD.out,hp];rfl);clear HD;rintro e w4⟨D,rfl⟩;have gn:=J.below D;have gi:=hB.trans (D.mono U);have gl:=gi.size;obtain⟨ps,n⟩:=p;simp only at hl;(have gw:n+1<=t.size:=by have:=gq.out;omega);have q5:IntKind.i64.wrap ((n:Int)+1)=(n:Int)+1:=gQ _ (by omega);(have p2:(0:Int)<=(n:Int)+1:=by omega);(have p3:(n:Int)+1<=(t.size:Int):=by omega);(have g0:((n:Int)+1).toNat=n+1:=by omega);have HP:=hid hp;clear hp D;go_wp2_with fail;refine(tN _ _ _ ⟨ps.toArray⟩ _ gn (by show(Lib.byteCells bs).length+ps.toArray.size<=_;simp[Lib.byteCells];omega) gl).mono ?_;rintro e w5⟨⟨v5,rfl⟩,gb,gd⟩;go_wp2_with fail;go_roundg (t.size-(n+1))
     case measure=>omega
     case rel=>exact⟨t.extract (n+1) t.size,bs++ps,rfl,by rw[jW];omega,by rw[jW];omega,by rw[jW,gL];omega,by(have:Lib.byteCells (bs++ps)=Lib.byteCells bs++Lib.strCells ⟨ps.toArray⟩:=by simp[Lib.byteCells,Lib.strCells]);rw[this];exact gb,gi.trans gd,by rw[ri,I.out];exact gt.out⟩
   ·(have c1:((bb:Int)==92)=false:=by rw[gC];omega);by_cases O:bb=34\/bb=10
    ·have h:Hid (R=none):=hid (by rw[<-HQ.out,I.out,B5 _ _ _ (by rw[N.out];exact M) (by rw[N.out];exact O)]);clear HQ M;by_cases yk:bb=34
     ·(have c2:((bb:Int) != 34)=false:=by rw[bne_eq_false_iff_eq];omega);clear yk O;go_wp2_with fail;refine(cv _).mono ?_;rintro e w6⟨rfl,rfl⟩;unfold bO;refine⟨rfl,?_⟩;rw[h.out];exact⟨hB,rfl⟩
     ·(have c2:((bb:Int) != 34)=true:=by rw[kZ];omega);(have c3:((bb:Int) != 10)=false:=by rw[bne_eq_false_iff_eq];omega);clear yk O;go_wp2_with fail;refine(cv _).mono ?_;rintro e w6⟨rfl,rfl⟩;unfold bO;refine⟨rfl,?_⟩;rw[h.out];exact⟨hB,rfl⟩
    ·have h:Hid (d6 (bs++[c]) rr=R):=hid (by rw[<-HQ.out,I.out,Aw _ _ _ (by rw[N.out];exact M) (by rw[N.out];exact O)]);(have c2:((bb:Int) != 34)=true:=by rw[kZ];omega);(have c3:((bb:Int) != 10)=true:=by rw[kZ];omega);clear HQ M O;go_wp2_with fail;refine(cZ _).mono ?_;rintro e w6⟨rfl,rfl⟩;go_wp2_with fail;refine(yg _ _ _ (bb:Int) _ J (by simp[Lib.byteCells];omega) U).mono ?_;rintro e w5⟨rfl,gb,gd⟩;go_wp2_with fail;go_roundg (t.size-1)
     case measure=>omega
     case rel=>exact⟨t.extract 1 t.size,bs++[c],rfl,by rw[jW];omega,by rw[jW];omega,by rw[jW,gL,List.length_singleton];omega,by(have:Lib.byteCells (bs++[c])=Lib.byteCells bs++[.int .u8 (bb:Int)]:=by simp[Lib.byteCells,N.out]);rw[this];exact gb,hB.trans gd,by rw[ri,I.out];exact h.out⟩
theorem RQ(v:Value)(w:World):(Instr.typeAssert (.iface 112 v) 20 112 true).run prog w=.ok (.tuple #[v,.bool true]) w:=by kernel_rfl
attribute [local go_sem] RQ
theorem pz(p q:Addr)(w:World):
  CallsD prog 112 #[.pointer (some p),.pointer (some q)] .returning w fun e u' w'=>e=.returned (.tuple #[])/\u'=.returning/\w'=w:=by
 refine callsD_of_wpS func112 rfl fun c₀ cs D=>?_;apply wpS_seq;apply vp;simp[wpOpsS,go_sem,recoverD,D,ntmps112,Exit.thenS];apply wpS_seq;apply vp;simp[wpOpsS,go_sem,Exit.thenS];refine wpS_cond (t:=false) (by simp[Act.eval,Array.replicate]) ?_;simp only[jC,kI];refine wpS_of_wp (wp_skip ?_);cases c₀
 simp_all[bodyPostS,results,results112]
theorem mj(B P Q:Nat)(vP vQ:Value)(w:World)(O:an w P 9 #[vP])(hQ:an w Q 29 #[vQ])(h:B<=P)(U:B<=Q)(J:P≠Q):
  CallsD prog 112 #[P,Q] (.panicking [{ v:=.iface 112 (.agg #[]),recovered:=false }]) w
   fun e u' w'=>e=.returned (.tuple #[])/\u'=.panicking [{ v:=.iface 112 (.agg #[]),recovered:=true }] /\
    an w' P 9 #[.string ⟨#[]⟩]/\an w' Q 29 #[.int .i64 4]/\Below B w w':=by refine callsD_of_wpS func112 rfl fun c₀ cs hu=>?_;apply wpS_seq;apply vp;simp[wpOpsS,go_sem,recoverD,hu,ntmps112,Exit.thenS];apply wpS_seq;apply vp;simp[wpOpsS,go_sem,Exit.thenS];refine wpS_cond (t:=true) (by simp[Act.eval,Array.replicate]) ?_;simp only[kW];refine wpS_of_wp ?_;change Code.wp _ _ _ { tmps:=#[.pointer (some ⟨P,0,none⟩),.pointer (some ⟨Q,0,none⟩),.iface 112 (.agg #[]),undef,undef,.iface 112 (.agg #[]),.iface 112 (.agg #[]),.bool true,undef,undef,undef,undef,undef,undef,undef,undef],defers:=[] } _;have I:=O.alloc (.cells #[] 112);have D:=hQ.alloc (.cells #[] 112);have ga:Below B w (w.alloc (.cells #[] 112)):=(gG _ _).alloc (by have:=O.lt;omega) _;have gd:=O.lt;have gb:=hQ.lt;(go_upto_region 5 with fail);generalize w.alloc (.cells #[] 112)=w1 at *;have x0:=a7 I;have x1:=a7 D;have f0:=I.frozen 0;have f1:=D.frozen 0;go_wp2_with fail;all_goals have N:an ((w1.setCell ⟨P,0,none⟩ (.string ⟨#[]⟩)).setCell ⟨Q,0,none⟩ (.int .i64 4)) P 9 #[.string ⟨#[]⟩]:=(show an (w1.setCell ⟨P,0,none⟩ (.string ⟨#[]⟩)) P 9 #[.string ⟨#[]⟩]by simpa using I.set_ 0 (.string ⟨#[]⟩)).far (p:=⟨Q,0,none⟩) J (.int .i64 4);(have M:an ((w1.setCell ⟨P,0,none⟩ (.string ⟨#[]⟩)).setCell ⟨Q,0,none⟩ (.int .i64 4)) Q 29 #[.int .i64 4]:=by simpa using(D.far (p:=⟨P,0,none⟩) J.symm (.string ⟨#[]⟩)).set_ 0 (.int .i64 4));refine⟨rfl,_,rfl,.tuple #[],?_,rfl,rfl,N,M,((ga.setCell (p:=⟨P,0,none⟩) h (.string ⟨#[]⟩)).setCell (p:=⟨Q,0,none⟩) U (.int .i64 4))⟩;simp[results,results112,go_sem]
end
end Go.Proofs.YtiebcdeafofgdaaGreatDoor
