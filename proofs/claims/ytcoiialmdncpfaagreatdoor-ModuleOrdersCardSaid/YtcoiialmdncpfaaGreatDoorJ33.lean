/-
  Parts of the proof: Ounit Osort Olspec Olstate. By an AI agent.
-/
import Derived.Test.YtcoiialmdncpfaaGreatDoorJ25
import Derived.Test.YtcoiialmdncpfaaGreatDoorJ22
import Derived.Test.YtcoiialmdncpfaaGreatDoorJ30
import Derived.Test.YtcoiialmdncpfaaGreatDoorJ31
import Derived.Test.YtcoiialmdncpfaaGreatDoorJ20
import Derived.Test.YtcoiialmdncpfaaGreatDoorJ19
import Derived.Test.YtcoiialmdncpfaaGreatDoorJ01
import Derived.Test.YtcoiialmdncpfaaGreatDoorJ32
import Derived.Shelf.SlSortCmp.InsertionK
open Go.Proofs.Tryz
set_option maxRecDepth 100000
set_option maxHeartbeats 8000000
namespace Go.Proofs.YtcoiialmdncpfaaGreatDoor
section
open Go.RowKit Go.Lib Go.Proofs
attribute [local go_sem ↓] Go.wp_at_zero Go.wp_at_succ
inductive rY where
 |fnd (t:ByteArray) (p:Int)
 |skip
 |un (mi:Int) (n:Nd)
def Bp(s:ByteArray)(mi:Int):Int:=if((p8 s).2.1&&decide (0<=fq (p8 s).1))=true then fq (p8 s).1 else mi
def rZ(mi:Int):E9->rY
 | .bad p k=>.fnd (if k=16 then(⟨#[111,116,104,101,114]⟩:BA)else(⟨#[115,121,110,116,97,120]⟩:BA)) p
 | .out=>.skip
 | .tree n=>if n.text=(⟨#[109,97,105,110]⟩:BA)then(match nB mi n with|some u=>.fnd ⟨#[103,97,116,101]⟩ u.2|none=>.un mi n)else .fnd ⟨#[110,97,109,101]⟩ 0
def r5(s:ByteArray)(mi:Int)(tags:List ByteArray):rY:=
 if(p8 s).2.2=8 then .fnd ⟨#[115,121,110,116,97,120]⟩ 0
 else if((p8 s).2.1 && !(bo 100 (p8 s).1&&cC tags 100 (p8 s).1))=true then .skip
 else rZ (Bp s mi) (dD fG s)
def Dj:Value:=.agg #[.string ⟨#[]⟩,.int .i64 0,.int .i64 0,.string ⟨#[]⟩,.slice none 0 0,.int .i64 0]
def Dk(w:World)(name:ByteArray)(r:rY)(e:Ending)(w':World):Prop:=Below w w w'/\match r with
 | .fnd t p=>∃A c,e=.returned (.tuple #[Dj,.bool false,.slice A 1 c])/\aA w' w'.heap.size 3 A 1 [.string t,.string name,.int .i64 p]
 | .skip=>e=.returned (.tuple #[Dj,.bool false,.slice none 0 0])
 | .un mi n=>∃A c,e=.returned (.tuple #[.agg #[name,.int .i64 mi,n.kind,n.text,.slice A n.kids.length c,n.pos],.bool true,.slice none 0 0]) /\
  aq (fun b=>w.heap.size<b) w' (.agg (nv n A c)) n
theorem NJ{s:ByteArray}{n:Nd}(h:dD fG s=.tree n):tQ 101 n/\(bi 100 n).length<=65536:=by
 unfold dD at h;cases D:db s with
 |err p k=>rw[D]at h;cases h
 | toks L=>
  rw[D]at h;simp only at h;cases I:fu fG ⟨L,(s.size:Int)⟩ ⟨0,false,-1⟩with
  |out=>rw[I]at h;cases h
  |fail p=>rw[I]at h;cases h
  | ok m s1=>
   have M:=C3 (c:=⟨L,(s.size:Int)⟩) (t7 (oT D) I) (fz (oS D)).2.1;rw[I]at h;unfold lB at h;simp only at h;split at h
   ·cases h
   ·split at h
    ·rename_i J;injection h with h;subst h;refine⟨M.2.1,?_⟩;unfold cB ER at J;simp only[gR,jG]at J;exact J.2.1
    ·cases h
theorem OT{s:ByteArray}{p k:Int}(h:dD fG s=.bad p k):k≠0:=by
 unfold dD at h;cases D:db s with
 |err q e=>rw[D]at h;have:=tu D;simp only at h;injection h with _ h;omega
 | toks L=>
  rw[D]at h;simp only at h;unfold lB at h;split at h
  ·cases h
  ·injection h with _ h;omega
  ·split at h
   ·injection h with _ h;omega
   ·split at h
    ·cases h
    ·injection h with _ h;omega
theorem Dl(k:Int)(w:World):Calls prog 26 #[k] w fun e w'=>e=.returned (.string (if k=16 then(⟨#[111,116,104,101,114]⟩:BA)else(⟨#[115,121,110,116,97,120]⟩:BA)))/\w=w':=by
 by_cases h:k=16
 ·subst h;rw[gL rfl];(go_enter func26,ntmps26);go_wp2_with fail;go_ret;exact⟨rfl,rfl⟩
 ·(have D:(k==16)=false:=by rw[gD];exact h);rw[gE h];clear h;(go_enter func26,ntmps26);go_wp2_with fail;go_ret;exact⟨rfl,rfl⟩
theorem oV(t name:ByteArray)(p:Int)(b:Nat)(v:Value)(w:World)(hb:aa w b 46 #[name,v]):
  Calls prog 21 #[t,p,b] w fun e w'=>e=.returned (.slice (some ⟨w,0,none⟩) 1 1)/\w'=w.alloc (.cells #[t,name,p] 38):=by have c0:=(hb.cell 0).trans rfl;clear hb;(go_enter func21,ntmps21);go_wp2_with fail;go_ret;exact⟨rfl,rfl⟩
theorem oW{W:World}{b:Nat}{t:TypeId}{z0 z1 z2 z3 z4 z5:Value}(h:aa W b t #[z0,z1,z2,z3,z4,z5])(a0 a1 a2 a3 a4 a5:Value):
  aa ((((((W.setCell ⟨b,0,none⟩ a0).setCell ⟨b,1,none⟩ a1).setCell ⟨b,2,none⟩ a2).setCell ⟨b,3,none⟩ a3).setCell ⟨b,4,none⟩ a4).setCell ⟨b,5,none⟩ a5) b t #[a0,a1,a2,a3,a4,a5]:=by simpa using(((((h.set_ 0 a0).set_ 1 a1).set_ 2 a2).set_ 3 a3).set_ 4 a4).set_ 5 a5
theorem Bq{n:Nat}{w W:World}(h:Below n w W){b:Nat}(hb:n<=b)(a0 a1 a2 a3 a4 a5:Value):
  Below n w ((((((W.setCell ⟨b,0,none⟩ a0).setCell ⟨b,1,none⟩ a1).setCell ⟨b,2,none⟩ a2).setCell ⟨b,3,none⟩ a3).setCell ⟨b,4,none⟩ a4).setCell ⟨b,5,none⟩ a5):=
 (((((h.setCell (p:=⟨b,0,none⟩) hb a0).setCell (p:=⟨b,1,none⟩) hb a1).setCell (p:=⟨b,2,none⟩) hb a2).setCell (p:=⟨b,3,none⟩) hb a3).setCell (p:=⟨b,4,none⟩) hb a4).setCell (p:=⟨b,5,none⟩) hb a5
theorem L4(W:World)(b:Nat)(a0 a1 a2 a3 a4 a5:Value):Kx (fun k=>k=b) W ((((((W.setCell ⟨b,0,none⟩ a0).setCell ⟨b,1,none⟩ a1).setCell ⟨b,2,none⟩ a2).setCell ⟨b,3,none⟩ a3).setCell ⟨b,4,none⟩ a4).setCell ⟨b,5,none⟩ a5):=
 (((((Kx.setCell (Cx:=fun k=>k=b) _ rfl 0 a0).trans (Kx.setCell (Cx:=fun k=>k=b) _ rfl 1 a1)).trans (Kx.setCell (Cx:=fun k=>k=b) _ rfl 2 a2)).trans (Kx.setCell (Cx:=fun k=>k=b) _ rfl 3 a3)).trans (Kx.setCell (Cx:=fun k=>k=b) _ rfl 4 a4)).trans (Kx.setCell (Cx:=fun k=>k=b) _ rfl 5 a5)
theorem eN{fn:Func}{q r1 r2:Tmp}(I:fn.results = #[.cell q 43,.tmp r1,.tmp r2])(tmps:Array Value){w:World}{g:Nat}{a b c d e f v1 v2:Value}(ht:tmps.getD q undef=.pointer (some ⟨g,0,none⟩))(h1:tmps.getD r1 undef=v1)(h2:tmps.getD r2 undef=v2)(hb:aa w g 43 #[a,b,c,d,e,f]):
  (results fn tmps).run prog w=.ok (.tuple #[.agg #[a,b,c,d,e,f],v1,v2]) w:=by have z0:w.cell? ⟨g,0,none⟩=some a:=(hb.cell 0).trans rfl;have z:w.cell? ⟨g,1,none⟩=some b:=(hb.cell 1).trans rfl;have y:w.cell? ⟨g,2,none⟩=some c:=(hb.cell 2).trans rfl;have x:w.cell? ⟨g,3,none⟩=some d:=(hb.cell 3).trans rfl;have h:w.cell? ⟨g,4,none⟩=some e:=(hb.cell 4).trans rfl;have O:w.cell? ⟨g,5,none⟩=some f:=(hb.cell 5).trans rfl;unfold results;rw[I];(have D:tmps[q]?.getD undef=.pointer (some ⟨g,0,none⟩):=by simpa using ht);(have M:tmps[r1]?.getD undef=v1:=by simpa using h1);(have J:tmps[r2]?.getD undef=v2:=by simpa using h2);simp[D,M,J,go_sem,z0,z,y,x,h,O]
theorem uc{w w1:World}{name t:ByteArray}{p:Int}{U N:Nat}{z0 z1 z2 z3 z4 z5:Value}{r:rY}(hb:Below w w w1)(h:aa w1 U 43 #[z0,z1,z2,z3,z4,z5])(D:w.heap.size<=U)(J:r=.fnd t p)(q:w1.heap.size=N):
  Dk w name r (.returned (.tuple #[Dj,.bool false,.slice (some ⟨N,0,none⟩) 1 1]))
   (((((((w1.alloc (.cells #[t,name,p] 38)).setCell ⟨U,0,none⟩ (.string ⟨#[]⟩)).setCell ⟨U,1,none⟩ (.int .i64 0)).setCell ⟨U,2,none⟩ (.int .i64 0)).setCell ⟨U,3,none⟩ (.string ⟨#[]⟩)).setCell ⟨U,4,none⟩ (.slice none 0 0)).setCell ⟨U,5,none⟩ (.int .i64 0)):=by subst q;have M:=h.lt;refine⟨Bq (hb.alloc hb.size _) D _ _ _ _ _ _,?_⟩;rw[J];refine⟨_,_,rfl,?_⟩;have O:=L4 (w1.alloc (.cells #[t,name,p] 38)) U (.string ⟨#[]⟩) (.int .i64 0) (.int .i64 0) (.string ⟨#[]⟩) (.slice none 0 0) (.int .i64 0);have I:=O.blk (aa.new w1 38 #[t,name,p]) (by show ¬ w1.heap.size=U;omega);exact cc (cs:=[.string t,.string name,.int .i64 p]) I rfl I.lt
theorem GI{w:World}{g:Nat}{t:TypeId}{a b c d e f:Value}(h:aa w g t #[a,b,c,d,e,f]):w.frozen? ⟨g,0,none⟩=false/\w.frozen? ⟨g,1,none⟩=false/\w.frozen? ⟨g,2,none⟩=false/\w.frozen? ⟨g,3,none⟩=false/\w.frozen? ⟨g,4,none⟩=false/\w.frozen? ⟨g,5,none⟩=false /\
  w.cell? ⟨g,0,none⟩=some a/\w.cell? ⟨g,1,none⟩=some b/\w.cell? ⟨g,2,none⟩=some c/\w.cell? ⟨g,3,none⟩=some d/\w.cell? ⟨g,4,none⟩=some e/\w.cell? ⟨g,5,none⟩=some f:=
 ⟨h.frozen 0,h.frozen 1,h.frozen 2,h.frozen 3,h.frozen 4,h.frozen 5,h.cell 0,h.cell 1,h.cell 2,h.cell 3,h.cell 4,h.cell 5⟩
theorem L5(name s:ByteArray)(A:Option Addr)(c:Nat)(mi:Int)(At:Option Addr)(ct:Nat)(tags:List ByteArray)(w:World)(hv:bR w A c s)(hT:fQ w)(hV:mG w)(ht:pn w At ct tags)(je:s.size<=100000000):
  Calls prog 11 #[wQ (name,.slice A s.size c),mi,.slice At tags.length ct] w (Dk w name (r5 s mi tags)):=by
 have jf:∀(fn:Fn)(first cap:Array Value)(w:World),(Instr.makeFunc fn first cap).run prog w=.ok (.func fn first cap) w:=fun _ _ _ _=>rfl;have he:Below w w ((w.alloc (.cells #[name,.slice A s.size c] 46)).alloc (.cells #[.string ⟨#[]⟩,.int .i64 0,.int .i64 0,.string ⟨#[]⟩,.slice none 0 0,.int .i64 0] 43)):=bel;have h2:=(aa.new w 46 #[name,.slice A s.size c]).alloc (.cells #[.string ⟨#[]⟩,.int .i64 0,.int .i64 0,.string ⟨#[]⟩,.slice none 0 0,.int .i64 0] 43);have h0:=aa.new_at (w:=w.alloc (.cells #[name,.slice A s.size c] 46)) (n:=w.heap.size+1) (by simp) 43 #[.string ⟨#[]⟩,.int .i64 0,.int .i64 0,.string ⟨#[]⟩,.slice none 0 0,.int .i64 0];have h7:=hid (F2 A c s _ (hv.below he) (hT.below he) (by omega));have ho:=Ov s;obtain⟨z,hz⟩:∃z,z=r5 s mi tags:=⟨_,rfl⟩;rw[<-hz];have HZ:=hid (show z=if(p8 s).2.2=8 then .fnd ⟨#[115,121,110,116,97,120]⟩ 0 else if((p8 s).2.1 && !(bo 100 (p8 s).1&&cC tags 100 (p8 s).1))=true then .skip else rZ (if((p8 s).2.1&&decide (0<=fq (p8 s).1))=true then fq (p8 s).1 else mi) (dD fG s)from hz);have HV:=hid hv;have HT:=hid hT;have HN:=hid hV;have g6:=hid ht;clear hv hT hV ht hz;generalize p8 s=o at *;obtain⟨x,is,er⟩:=o;simp only at ho HZ;have gu:=hid ho;unfold wQ;clear ho;(go_enter func11,ntmps11);go_wp2_with fail;refine h7.out.mono ?_;rintro e w1⟨v,rfl,hx,g9⟩;obtain⟨Ax,cx,rfl,-⟩:=hx.toC;simp only at hx;have gx:Below w1 w1 (w1.alloc (.cells #[.string x.op,.string x.tag,.slice Ax x.kids.length cx] 73)):=bel;have ga:=aE (aE he g9) gx;have gq:=(h2.bl g9).bl gx;have gd:=(h0.bl g9).bl gx;have ge:=aa.new w1 73 #[.string x.op,.string x.tag,.slice Ax x.kids.length cx];have gt:=hid (hx.below gx);clear h7 he h2 h0 g9 gx hx;(go_upto_region 3 with fail);(have jh:w.heap.size+1<w1.heap.size+1:=by have:=gd.lt;rw[gP]at this;omega);generalize hW2:w1.alloc (.cells #[.string x.op,.string x.tag,.slice Ax x.kids.length cx] 73)=w2 at *;clear hW2;by_cases h8:er=8
 ·subst h8;have HF:Hid (z=.fnd ⟨#[115,121,110,116,97,120]⟩ 0):=hid (by rw[HZ.out,gL rfl]);clear HZ ge gt HV HT HN g6 gu;go_wp2_with fail;refine(oV ⟨#[115,121,110,116,97,120]⟩ name 0 _ _ _ gq).mono ?_;rintro e w3⟨rfl,rfl⟩;have gg:=gd.alloc (.cells #[.string ⟨#[115,121,110,116,97,120]⟩,.string name,.int .i64 0] 38);obtain⟨f0,f1,f2,f3,f4,f5,u0,u1,u2,u3,u4,u5⟩:=GI gg;go_wp2_with fail;refine jD (eN rfl _ (by rfl) (by rfl) (by rfl) (oW gg (.string ⟨#[]⟩) (.int .i64 0) (.int .i64 0) (.string ⟨#[]⟩) (.slice none 0 0) (.int .i64 0))) rfl (uc ga gd (jC _) HF.out (by first|rfl|simp))
 ·(have e8:(er==8)=false:=by rw[gD];exact h8);have hi:=hid (show z=if(is && !(bo 100 x&&cC tags 100 x))=true then .skip else rZ (if(is&&decide (0<=fq x))=true then fq x else mi) (dD fG s)by rw[HZ.out,gE h8]);have e0:=(ge.cell 0).trans rfl;have e1:=(ge.cell 1).trans rfl;have e2:=(ge.cell 2).trans rfl;clear HZ h8;have g7:=hid (FT x _ At ct tags w2 gu.out gt.out (g6.out.below ga) (HN.out.below ga));generalize hhb:(bo 100 x&&cC tags 100 x)=hb at *;clear hhb;(have key:(is=true/\hb=false)\/((is && !hb)=false/\(is=false\/hb=true)):=by cases is<;>cases hb<;>simp);rcases key with⟨rfl,rfl⟩|⟨gm,gv⟩
  ·have HF:Hid (z=.skip):=hi;clear hi gt HV HT g6 gu HN;go_wp2_with fail;refine g7.out.mono ?_;rintro e w3⟨rfl,q⟩;have hc:=aE ga q;have gg:=gd.bl q;clear gd gq ge ga q e0 e1 e2 g7;obtain⟨f0,f1,f2,f3,f4,f5,u0,u1,u2,u3,u4,u5⟩:=GI gg;go_wp2_with fail;refine jD (eN rfl _ (by rfl) (by rfl) (by rfl) (oW gg (.string ⟨#[]⟩) (.int .i64 0) (.int .i64 0) (.string ⟨#[]⟩) (.slice none 0 0) (.int .i64 0))) rfl ⟨Bq hc (jC _) _ _ _ _ _ _,?_⟩;rw[HF.out];rfl
  ·have gs:=hid (show z=rZ (if(is&&decide (0<=fq x))=true then fq x else mi) (dD fG s)by rw[hi.out,gm];rfl);clear hi gm;have hl:=hid (fun W(hb:Below w2 w2 W)=>F3 x _ W gu.out (gt.out.below hb) ((HN.out.below ga).below hb));generalize fq x=L at *;have W3:∃(m:Int),True:=⟨mi,trivial⟩;cases is
   case' false=>have gr:Hid (z=rZ mi (dD fG s)):=gs;clear gs g7 gv;go_wp2_with fail;refine(hl.out _ (gC _ _)).mono ?_;rintro e w4⟨rfl,gb⟩;have gj:=aE ga gb;have gl:=gq.bl gb;have gp:=gd.bl gb;have s1:=(gl.cell 1).trans rfl;clear ga gq gd ge gt gb e0 e1 e2 hl g6 gu HN;go_wp2_with fail
   case' true=>
    obtain rfl:hb=true:=gv.resolve_left (by decide);clear gv;go_wp2_with fail;refine g7.out.mono ?_;rintro e w3⟨rfl,q⟩;have hc:=aE ga q;have h1:=gq.bl q;have gg:=gd.bl q;have ha:=ge.bl q;have hn:=hid (hl.out w3 q);clear ga gq gd ge q e0 e1 e2 g7 hl gt;have e0:=(ha.cell 0).trans rfl;have e1:=(ha.cell 1).trans rfl;have e2:=(ha.cell 2).trans rfl;go_wp2_with fail;refine hn.out.mono ?_;rintro e w4⟨rfl,gb⟩;have gj:=aE hc gb;have gl:=h1.bl gb;have gp:=gg.bl gb;have s1:=(gl.cell 1).trans rfl;clear hc h1 gg ha gb e0 e1 e2 hn g6 gu HN;by_cases hL:0<=L
    case' pos=>have g0:decide ((0:Int)<=L)=true:=jK hL;have gr:Hid (z=rZ L (dD fG s)):=hid (by rw[gs.out,g0];rfl);clear gs;go_wp2_with fail;generalize L=mi at *
    case' neg=>have g0:decide ((0:Int)<=L)=false:=gV hL;have gr:Hid (z=rZ mi (dD fG s)):=hid (by rw[gs.out,g0];rfl);clear gs;go_wp2_with fail
   all_goals
    have hj:=hid (LK A c s w4 (HV.out.below gj) (HT.out.below gj) (by omega));have hr:=hid (fun n(h:dD fG s=.tree n)=>NJ h);have hu:=hid (fun p k(h:dD fG s=.bad p k)=>OT h);have gm:=C2 s;generalize dD fG s=r at *;cases r with
    |out=>exact absurd rfl gm
    |bad p k=>have hk:=hu.out p k rfl;(have jg:(k != 0)=true:=by rw[kE];exact hk);have HF:Hid (z=.fnd (if k=16 then(⟨#[111,116,104,101,114]⟩:BA)else(⟨#[115,121,110,116,97,120]⟩:BA)) p):=gr;clear gr hr hu gm HV;refine hj.out.mono ?_;rintro e w5⟨rfl,O⟩;have g4:=aE gj O;have g1:=gl.bl O;have gn:=gp.bl O;clear gj gl gp O s1 hj hk HT;have J:Below w5 w5 (w5.alloc (.cells bg 41)):=bel;have gi:=aE g4 J;have gh:=g1.bl J;have y:=gn.bl J;unfold bg at gi gh y;unfold bg;clear g4 g1 gn J;have jd:=hid (fun W=>Dl k W);generalize(if k=16 then(⟨#[111,116,104,101,114]⟩:BA)else(⟨#[115,121,110,116,97,120]⟩:BA))=tg at *;go_wp2_with fail;refine(jd.out _).mono ?_;rintro e w7⟨rfl,rfl⟩;go_wp2_with fail;refine(oV tg name p _ _ _ gh).mono ?_;rintro e w8⟨rfl,rfl⟩;have M:=y.alloc (.cells #[.string tg,name,.int .i64 p] 38);obtain⟨f0,f1,f2,f3,f4,f5,u0,u1,u2,u3,u4,u5⟩:=GI M;go_wp2_with fail;refine jD (eN rfl _ (by rfl) (by rfl) (by rfl) (oW M (.string ⟨#[]⟩) (.int .i64 0) (.int .i64 0) (.string ⟨#[]⟩) (.slice none 0 0) (.int .i64 0))) rfl (uc gi y (jC _) HF.out (by first|rfl|simp))
    | tree n=>
     have HW:=hid (hr.out n rfl);have hh:Hid (z=if n.text=(⟨#[109,97,105,110]⟩:BA)then(match nB mi n with|some u=>.fnd ⟨#[103,97,116,101]⟩ u.2|none=>.un mi n)else .fnd ⟨#[110,97,109,101]⟩ 0):=gr;clear gr hr hu gm HV;refine hj.out.mono ?_;rintro e w5⟨v,rfl,gw,O⟩;obtain⟨A5,c5,rfl,-⟩:=gw.toC;have g4:=aE gj O;have g1:=gl.bl O;have gn:=gp.bl O;have h6:=hid ((HT.out.below gj).below O);have h9:w.heap.size+1<w4.heap.size:=gp.lt;(have gw:aq (fun b=>w.heap.size+1<b) w5 (.agg (nv n A5 c5)) n:=gw.mono fun b hb _=>by have hb:w4.heap.size<b:=hb;omega);clear gj gl gp O s1 hj HT h9;have J:Below w5 w5 (w5.alloc (.cells (nv n A5 c5) 41)):=bel;have gi:=aE g4 J;have gh:=g1.bl J;have y:=gn.bl J;have g2:=aa.new w5 41 (nv n A5 c5);have ja:w.heap.size+1<w5.heap.size:=gn.lt;have g5:=hid (gw.below J);have hs:=hid (h6.out.below J);clear g4 g1 gn J gw h6;have g8:=(bN n.text [109,97,105,110]).symm;(go_upto_region 11 with fail);obtain⟨N5,h4⟩:∃N5,N5=w5.heap.size:=⟨_,rfl⟩;rw[<-h4]at g2 ja |-;clear h4;generalize w5.alloc (.cells (nv n A5 c5) 41)=w6 at *;obtain⟨n0,n1,n2,n3,-,-,-,-⟩:=ah g2;by_cases hm:n.text=(⟨#[109,97,105,110]⟩:BA)
     rotate_left
     ·have HF:Hid (z=.fnd ⟨#[110,97,109,101]⟩ 0):=hid (by rw[hh.out,gE hm]);rw[show decide (n.text=⟨List.toArray [109,97,105,110]⟩)=false from gV hm]at g8;(have hw:(n.text.toList != [109,97,105,110])=true:=by rw[bne,g8];rfl);clear hh hm g5 hs HW;go_wp2_with fail;refine(oV ⟨#[110,97,109,101]⟩ name 0 _ _ _ gh).mono ?_;rintro e w8⟨rfl,rfl⟩;have M:=y.alloc (.cells #[.string ⟨#[110,97,109,101]⟩,.string name,.int .i64 0] 38);obtain⟨f0,f1,f2,f3,f4,f5,u0,u1,u2,u3,u4,u5⟩:=GI M;go_wp2_with fail;refine jD (eN rfl _ (by rfl) (by rfl) (by rfl) (oW M (.string ⟨#[]⟩) (.int .i64 0) (.int .i64 0) (.string ⟨#[]⟩) (.slice none 0 0) (.int .i64 0))) rfl (uc gi y (jC _) HF.out (by first|rfl|simp))
     ·have hg:Hid (z=match nB mi n with|some u=>.fnd ⟨#[103,97,116,101]⟩ u.2|none=>.un mi n):=hid (by rw[hh.out,gL hm]);rw[show decide (n.text=⟨List.toArray [109,97,105,110]⟩)=true from jK hm]at g8;(have hw:(n.text.toList != [109,97,105,110])=false:=by rw[bne,g8];rfl);have gk:=hid (GF _ n mi w6 hs.out.tab (g5.out.mono fun _ _ _=>trivial) HW.out.1 (by have:=HW.out.2;omega));clear hh hm hs HW;cases hf:nB mi n with
      |some u=>obtain⟨um,ua⟩:=u;have HF:Hid (z=.fnd ⟨#[103,97,116,101]⟩ ua):=hid (by rw[hg.out,hf]);rw[hf]at gk;unfold EA at gk;clear hg hf g5;go_wp2_with fail;refine gk.out.mono ?_;rintro e w7⟨rfl,I⟩;have g3:=aE gi I;have gz:=gh.bl I;have gy:=y.bl I;clear gi gh y g2 I n0 n1 n2 n3 gk;have D:Below w7 w7 (w7.alloc (.cells #[.int .i64 um,.int .i64 ua] 82)):=bel;have hq:=aE g3 D;have hp:=gz.bl D;have M:=gy.bl D;clear g3 gz gy D;go_wp2_with fail;refine(oV ⟨#[103,97,116,101]⟩ name ua _ _ _ hp).mono ?_;rintro e w9⟨rfl,rfl⟩;have hy:=M.alloc (.cells #[.string ⟨#[103,97,116,101]⟩,.string name,.int .i64 ua] 38);obtain⟨f0,f1,f2,f3,f4,f5,u0,u1,u2,u3,u4,u5⟩:=GI hy;go_wp2_with fail;refine jD (eN rfl _ (by rfl) (by rfl) (by rfl) (oW hy (.string ⟨#[]⟩) (.int .i64 0) (.int .i64 0) (.string ⟨#[]⟩) (.slice none 0 0) (.int .i64 0))) rfl (uc hq M (jC _) HF.out (by first|rfl|simp))
      |none=>have HF:Hid (z=.un mi n):=hid (by rw[hg.out,hf]);rw[hf]at gk;unfold EA at gk;clear hg hf;go_wp2_with fail;refine gk.out.mono ?_;rintro e w7⟨rfl,I⟩;have g3:=aE gi I;have gz:=gh.bl I;have gy:=y.bl I;have h3:=g2.bl I;have h5:=hid (g5.out.below I);clear gi gh y g2 I n0 n1 n2 n3 gk g5;have D:Below w7 w7 (w7.alloc (.cells #[.int .i64 0,.int .i64 0] 82)):=bel;have hq:=aE g3 D;have hp:=gz.bl D;have M:=gy.bl D;have jc:=hid (h5.out.below D);obtain⟨n0,n1,n2,n3,-,-,-,-⟩:=ah (h3.bl D);have s0:=(hp.cell 0).trans rfl;obtain⟨f0,f1,f2,f3,f4,f5,u0,u1,u2,u3,u4,u5⟩:=GI M;clear g3 gz gy h3 D h5;go_wp2_with fail;have hE:=oW M (.string name) (.int .i64 mi) (.int .i64 n.kind) (.string n.text) (.slice A5 n.kids.length c5) (.int .i64 n.pos);have jb:=L4 (w7.alloc (.cells #[.int .i64 0,.int .i64 0] 82)) (w.heap.size+1) (.string name) (.int .i64 mi) (.int .i64 n.kind) (.string n.text) (.slice A5 n.kids.length c5) (.int .i64 n.pos);refine jD (eN rfl _ (by rfl) (by rfl) (by rfl) hE) rfl ⟨Bq hq (jC _) _ _ _ _ _ _,?_⟩;rw[HF.out];exact⟨_,_,rfl,(jc.out.keep fun b hb hlt=>jb.same b hlt (by have hb:w.heap.size+1<b:=hb;omega)).mono fun b hb _=>by have hb:w.heap.size+1<b:=hb;omega⟩
end
section
open Go.RowKit Go.Sort Go.Lib Go.Proofs Go.Shelf
attribute [local go_sem ↓] Go.wp_at_zero Go.wp_at_succ
def r7(x y:my):Int:=pX x.1 y.1
def cG(l:List my):List my:=(Sort.insertionSort (ltOf r7) l.toArray 0 l.length).toList
theorem L9(x:my):∀v∈f9 x,v.oneCell'=true:=by intro v D;simp only[f9,vb,qN,xj]at D;rcases D with rfl|rfl<;>rfl
theorem Ma(x y:my)(w:World):Calls prog 18 #[.agg (f9 x).toArray,.agg (f9 y).toArray] w fun e w'=>e=.returned (.int .i64 (r7 x y))/\∃q os',w'=Go.Sort.grow (w.drewN q) os':=by
 have D:∃q os',(w.alloc (.cells #[.string x.1,.slice x.2.1 x.2.2.2.size x.2.2.1] 46)).alloc (.cells #[.string y.1,.slice y.2.1 y.2.2.2.size y.2.2.1] 46)=Go.Sort.grow (w.drewN q) os':=⟨0,_,by rw[alloc_eq_grow,alloc_eq_grow,grow_grow];rfl⟩
 unfold r7;change Calls prog 18 #[.agg #[.string x.1,.slice x.2.1 x.2.2.2.size x.2.2.1],.agg #[.string y.1,.slice y.2.1 y.2.2.2.size y.2.2.1]] w _;(go_enter func18,ntmps18);go_wp2_with fail;refine(Aw _ _ _).mono ?_;rintro e w1⟨rfl,rfl⟩;go_wp2_with fail;go_ret;exact⟨rfl,D⟩
theorem GM(A:Option Addr)(n c:Nat)(q:n<20)(w:World)(Q:World->Prop)
  (h:Calls prog 63 #[.slice A n c,.int .i64 0,.int .i64 (n:Int),.func (.func 18) #[] #[]] w fun e w'=>e=.returned (.tuple #[])/\Q w'):
  Calls prog 17 #[.slice A n c,.func (.func 18) #[] #[]] w fun e w'=>e=.returned (.tuple #[])/\Q w':=by have M:=hid h;clear h;(have J:Calls prog 38 #[.slice A n c,.int .i64 (n:Int),.func (.func 18) #[] #[]] w fun e w'=>e=.returned (.tuple #[])/\Q w':=by(have y:¬ ((20:Int)<=(n:Int)):=by omega);(have x:¬ ((20:Int)<(n:Int)):=by omega);(go_enter func38,ntmps38);go_wp2_with fail;refine kG 1 ?_;rw[jH];go_wp2_with fail;refine M.out.mono ?_;rintro e w1⟨rfl,D⟩;have I:=hid D;clear D;go_wp2_with fail;refine kG 1 ?_;rw[jH];go_wp2_with fail;go_end0;exact⟨rfl,I.out⟩);have O:=hid J;clear J M;(go_enter func17,ntmps17);go_wp2_with fail;refine O.out.mono ?_;rintro e w1⟨rfl,D⟩;have I:=hid D;clear D;go_wp2_with fail;go_end0;exact⟨rfl,I.out⟩
theorem ud(x y:my):ltOf r7 x y=decide (x.1.toList<y.1.toList):=by
 unfold ltOf r7 pX;by_cases h:x.1.toList<y.1.toList
 ·simp[h]
 ·rw[gE h,gV h];split<;>rfl
theorem Po:SWO (ltOf r7):=by
 refine⟨fun x=>?_,fun x y z h1 h2=>?_,fun x y z h1 h2=>?_⟩
 ·rw[ud];exact gV (List.lt_irrefl _)
 ·rw[ud]at h1 h2 |-;exact jK (List.lt_trans (of_decide_eq_true h1) (of_decide_eq_true h2))
 ·rw[ud]at h1 h2 |-;exact gV (List.not_lt.2 (List.le_trans (List.not_lt.1 (of_decide_eq_false h2)) (List.not_lt.1 (of_decide_eq_false h1))))
theorem f8(l:List my):(cG l).Perm l:=by have h:=(insertionSort_holds (lt:=ltOf r7) Po l.toArray 0 l.length (gT _) (by simp)).1;have D:=h.2.2;(have I:(Sort.insertionSort (ltOf r7) l.toArray 0 l.length).size=l.length:=by rw[h.1];simp);rw[vK,vK]at D;simp only[vm,Nat.sub_zero,qU]at D;rw[jU (by rw[kR,I];exact gA _),jU (by simp)]at D;exact D
theorem fC(l:List my):(cG l).length=l.length:=(f8 l).length_eq
theorem oC(l:List my):(cG l).Pairwise fun x y=>¬ y.1.toList<x.1.toList:=by have h:=(insertionSort_holds (lt:=ltOf r7) Po l.toArray 0 l.length (gT _) (by simp)).2;have D:=fC l;rw[List.pairwise_iff_getElem];intro i j hi hj hij;have I:=h i j (gT _) hij (by omega);rw[ud]at I;(have J:(Sort.insertionSort (ltOf r7) l.toArray 0 l.length).size=l.length:=by unfold cG at D;rw[kR]at D;exact D);rw[vi _ i (by omega),vi _ j (by omega)]at I;exact of_decide_eq_false I
theorem SWK.kx{α:Type}[Inhabited α]{enc:α->List Value}{k:Nat}{w0 W:World}{blk off:Nat}{dk:Array α}(h:SWK enc k w0 blk off dk W):Kx (fun b=>b=blk) w0 W:=by have D:=h.le;obtain⟨n,os,rfl⟩:=h;refine⟨⟨rfl,rfl,rfl,D,nofun⟩,fun j hj hne=>?_⟩;unfold sortWorldK;rw[heap_grow_old _ _ (by rw[size_putRowK];show j<w0.heap.size;omega)];unfold putRowK putRow mapBlock;simp only[Array.getElem?_modify,heap_ahead];rw[gE (fun e=>hne e.symm)]
theorem GN(base g c:Nat)(l:List my)(w:World)(hl:l.length<20)(J:w.ownsRow base 46 2 (.slice (some ⟨g,0,none⟩) l.length c) l.length (l.flatMap f9))(O:g<w.heap.size):
  Calls prog 17 #[.slice (some ⟨g,0,none⟩) l.length c,.func (.func 18) #[] #[]] w fun e w'=>e=.returned (.tuple #[]) /\
   (bK (fun b=>b=g) w' 2 (some ⟨g,0,none⟩) l.length ((cG l).flatMap f9)/\Kx (fun b=>b=g) w w'):=by
 have hH:=pq (enc:=f9) mH rfl J;refine GM _ _ _ hl w _ ?_;have eg:∀args w,(callFunc 18 args).run prog w=.ok (.enter 18 args) w:=wR;have D:=AnyQ.insertionSortCmpFunc Tryz.insS 2 isAgg46 sizeOf46 f9 mH L9 r7 18 #[] g 0 c 0 l.length l.toArray w eg (fun _ _ _ _ x y=>Ma x y _) hH O (gT _) (by simp) (by simp;omega);rw[show l.toArray.size=l.length by simp]at D;refine Calls.mono D fun e w'⟨he,h⟩=>⟨he,?_,SWK.kx h⟩
 have z:SWK f9 2 w g 0 (Sort.insertionSort (ltOf r7) l.toArray 0 l.length) w':=h;(have I:(Sort.insertionSort (ltOf r7) l.toArray 0 l.length).size=l.toArray.size:=by have:=fC l;unfold cG at this;rw[kR]at this;simpa using this);have hh:=z.holds O hH I;have q:=oA (xs:=cG l) (m:=l.length) mH hh (fC l) (fun j hj=>by unfold cG;(have M:j<(Sort.insertionSort (ltOf r7) l.toArray 0 l.length).size:=by rw[I];simpa using hj);rw[vY,vH M,vi _ j M]) (by rw[I];simp) (z.lt O);exact⟨q.1,fun hn=>by obtain⟨ad,e,-,hc⟩:=q.2 hn;injection e with e;subst e;exact⟨g,0,rfl,rfl,fun j u hu=>by have:=hc j u hu;rwa [iU]at this⟩⟩
end
section
open Go.RowKit Go.Lib Go.Proofs Go.Shelf
attribute [local go_sem] Oper.semAt_some
abbrev Bw:=ByteArray×ByteArray×Int
abbrev Un:=ByteArray×Int×Nd
def EI(n:ByteArray):rY->List Bw
 | .fnd t p=>[(t,n,p)]
 |_=>[]
def Md(n:ByteArray):rY->List Un
 | .un m t=>[(n,m,t)]
 |_=>[]
abbrev Bs:=ByteArray×ByteArray
def PF:Bs:=(⟨#[]⟩,⟨#[]⟩)
def EJ(K:List Bs)(i:Nat):ByteArray:=(K.map (·.1)).getD i ⟨#[]⟩
def PH(K:List Bs)(i:Nat):Bool:=(decide (0<i)&&(EJ K (i-1)).toList==(EJ K i).toList)||(decide (i+1<K.length)&&(EJ K (i+1)).toList==(EJ K i).toList)
def Me(K:List Bs)(i:Nat):Bool:=wU (EJ K i)&&(!(wT (EJ K i)).toList.isEmpty && !PH K i)
def o9(mi:Int)(tags:List ByteArray)(K:List Bs)(i:Nat):rY:=if Me K i=true then r5 (K.getD i PF).2 mi tags else .fnd ⟨#[110,97,109,101]⟩ 0
def dQ(mi:Int)(tags:List ByteArray)(K:List Bs)(i:Nat):List Bw:=(List.range i).flatMap fun j=>EI (EJ K j) (o9 mi tags K j)
def dE(mi:Int)(tags:List ByteArray)(K:List Bs)(i:Nat):List Un:=(List.range i).flatMap fun j=>Md (EJ K j) (o9 mi tags K j)
theorem nG(mi:Int)(tags:List ByteArray)(K:List Bs)(i:Nat):dQ mi tags K (i+1)=dQ mi tags K i++EI (EJ K i) (o9 mi tags K i):=by unfold dQ;rw[List.range_succ,kO];simp
theorem nH(mi:Int)(tags:List ByteArray)(K:List Bs)(i:Nat):dE mi tags K (i+1)=dE mi tags K i++Md (EJ K i) (o9 mi tags K i):=by unfold dE;rw[List.range_succ,kO];simp
theorem NN(n:ByteArray)(r:rY):(EI n r).length<=1:=by cases r<;>simp[EI]
theorem OW(n:ByteArray)(r:rY):(Md n r).length<=1:=by cases r<;>simp[Md]
theorem nI(mi:Int)(tags:List ByteArray)(K:List Bs):∀i,(dQ mi tags K i).length<=i
 |0=>gA _
 |i+1=>by rw[nG,gJ];have:=nI mi tags K i;have:=NN (EJ K i) (o9 mi tags K i);omega
theorem nJ(mi:Int)(tags:List ByteArray)(K:List Bs):∀i,(dE mi tags K i).length<=i
 |0=>gA _
 |i+1=>by rw[nH,gJ];have:=nJ mi tags K i;have:=OW (EJ K i) (o9 mi tags K i);omega
inductive tG where
 |good (path:ByteArray) (us:List Un)
 |bad (fs:List Bw)
def yD(path:ByteArray)(fs:List Bw)(us:List Un):tG:=if fs=[]/\us≠[]then .good path us else .bad (if fs=[]then[((⟨#[110,97,109,101]⟩:BA),(⟨#[]⟩:BA),0)]else fs)
def ec(er:Int):List Bw:=if er=0 then[]else[((⟨#[109,111,100]⟩:BA),(⟨#[]⟩:BA),0)]
def nO(sm:ByteArray)(K:List Bs)(tags:List ByteArray):tG:=
 yD (nE sm).1 (ec (nE sm).2.2++dQ (nE sm).2.1 tags K K.length) (dE (nE sm).2.1 tags K K.length)
def yE(l:List Bw):List Value:=l.flatMap fun x=>[.string x.1,.string x.2.1,.int .i64 x.2.2]
theorem Mf(l m:List Bw):yE (l++m)=yE l++yE m:=by unfold yE;rw[kO]
def mQ(X:Nat->Prop)(w:World):List Un->List Value->Prop
 |[],xs=>xs=[]
 | x :: l,xs=>∃A c ys,xs=[.string x.1,.int .i64 x.2.1,.int .i64 x.2.2.kind,.string x.2.2.text,.slice A x.2.2.kids.length c,.int .i64 x.2.2.pos]++ys /\
     aq X w (.agg #[.int .i64 x.2.2.kind,.string x.2.2.text,.slice A x.2.2.kids.length c,.int .i64 x.2.2.pos]) x.2.2/\mQ X w l ys
theorem Mg{w:World}{b o:Nat}{v:Value}(h:w.cell? ⟨b,o,none⟩=some v):∃c t f,w.heap[b]? = some (.cells c t f):=by
 unfold World.cell? at h;cases hb:w.heap[b]? with
 |none=>simp only[hb]at h;cases h
 |some ob=>
  simp only[hb]at h;cases ob with
  |cells c t f=>exact⟨c,t,f,rfl⟩
  |_=>cases h
section
variable {X:Nat->Prop} {w w':World}
theorem bK.keepC{size n:Nat}{A:Option Addr}{xs:List Value}(J:∀b,X b->(∃c t f,w.heap[b]? = some (.cells c t f))->w'.heap[b]? = w.heap[b]?)(h:bK X w size A n xs):bK X w' size A n xs:=
 ⟨h.1,fun I=>by obtain⟨b,off,e,hb,M⟩:=h.2 I;refine⟨b,off,e,hb,fun j u hu=>?_⟩;have D:=M j u hu;exact(jM (a:=⟨b,off+j,none⟩) (J b hb (Mg D))).trans D⟩
mutual
theorem aY.keepC(D:∀b,X b->(∃c t f,w.heap[b]? = some (.cells c t f))->w'.heap[b]? = w.heap[b]?):∀(n:Nd)(cs:List Value),aY X w n cs->aY X w' n cs
 | .mk k t l a,cs,h=>by unfold aY at h |-;obtain⟨A,cap,xs,e,M,I,J⟩:=h;exact⟨A,cap,xs,e,M,I.keepC D,ae.keepC D l xs J⟩
theorem ae.keepC(D:∀b,X b->(∃c t f,w.heap[b]? = some (.cells c t f))->w'.heap[b]? = w.heap[b]?):∀(l:List Nd)(xs:List Value),ae X w l xs->ae X w' l xs
 |[],xs,h=>by unfold ae at h |-;exact h
 |n::l,xs,h=>by unfold ae at h |-;obtain⟨ys,zs,e,J,I⟩:=h;exact⟨ys,zs,e,aY.keepC D n ys J,ae.keepC D l zs I⟩
end
theorem aq.keepC{v:Value}{n:Nd}(D:∀b,X b->(∃c t f,w.heap[b]? = some (.cells c t f))->w'.heap[b]? = w.heap[b]?)(h:aq X w v n):aq X w' v n:=by obtain⟨A,cap,xs,e,M,J,I⟩:=h;exact⟨A,cap,xs,e,M,J.keepC D,ae.keepC D _ _ I⟩
theorem mQ.keepC(D:∀b,X b->(∃c t f,w.heap[b]? = some (.cells c t f))->w'.heap[b]? = w.heap[b]?):∀(l:List Un)(xs:List Value),mQ X w l xs->mQ X w' l xs
 |[],_,h=>h
 |x::l,xs,h=>by obtain⟨A,c,ys,e,J,I⟩:=h;exact⟨A,c,ys,e,J.keepC D,mQ.keepC D l ys I⟩
theorem mQ.mono{Y:Nat->Prop}(D:∀b,X b->b<w.heap.size->Y b):∀(l:List Un)(xs:List Value),mQ X w l xs->mQ Y w l xs
 |[],_,h=>h
 |x::l,xs,h=>by obtain⟨A,c,ys,e,J,I⟩:=h;exact⟨A,c,ys,e,J.mono D,mQ.mono D l ys I⟩
theorem mQ.app:∀(l m:List Un)(xs ys:List Value),mQ X w l xs->mQ X w m ys->mQ X w (l++m) (xs++ys)
 |[],m,xs,ys,D,I=>by unfold mQ at D;subst D;exact I
 |x::l,m,xs,ys,D,I=>by obtain⟨A,c,zs,e,M,J⟩:=D;subst e;rw[qS];exact⟨A,c,_,rfl,M,mQ.app l m zs ys J I⟩
end
def Pp(w:World)(l:List Un)(xs:List Value):Prop:=mQ (fun _=>True) w l xs
def r9(w:World)(r:tG)(e:Ending)(w':World):Prop:=Below w w w'/\match r with
 | .good path us=>∃Au cu xs,e=.returned (.tuple #[.agg #[.string path,.slice Au us.length cu],.slice none 0 0])/\aA w' w'.heap.size 6 Au us.length xs/\Pp w' us xs
 | .bad fs=>∃Af cf,e=.returned (.tuple #[.agg #[.string ⟨#[]⟩,.slice none 0 0],.slice Af fs.length cf])/\aA w' w'.heap.size 3 Af fs.length (yE fs)
theorem cD{F:Fence}{nF:Nat}{P:Program}{w:World}{ops:Array Oper}{rest:List Oper}{o:Oper}{a:Act}{Q:Exit->Act->World->Prop}(ga:o.guard=none)(s x:Operand)(t:TypeId)
  (ho:o.op=.call { callee:=.builtin .append,args:=#[s,x],argTypes:=#[t,t] })
  (base:Nat)(e:TypeId)(i:TypeInfo)(z:Value)(size bytes:Nat)(ht:P.underlying t=some (.slice e))(hi:P.info? e=some i)(hz:i.zero=some z)
  (I:i.size=size)(gd:i.bytes=bytes)(q:z.cells.size=size)(y:0<size)
  (v:Value)(n:Nat)(xs:List Value)(hs:a.eval s=v)(O:w.ownsRow base e size v n xs)
  (B:Nat)(A:Option Addr)(m c:Nat)(news:List Value)(hx:a.eval x=.slice A m c)(hr:aA w B size A m news)(h1:∀u∈news,u.oneCell'=true)
  (ge:n+m<=maxLen)(D:(n+m)*bytes<=140737488355328)(J:base<=w.heap.size)
  (h:∀v' w',w'.ownsRow base e size v' (n+m) (xs++news)->w.grownBy w' v.ownBlock->(v'.ownBlock=v.ownBlock\/v'.ownBlock=some w.heap.size)->wpListIn F nF P ops Q rest (a.put o.dst v') w'):wpListIn F nF P ops Q (o::rest) a w:=by refine wpListIn_plain ga fun K hK=>?_;obtain⟨v',w',M,h2,h3,h4⟩:=nT (P:=P) w base t o.type e i z size bytes ht hi hz I gd q y v n xs O B A m c news hr h1 ge D J;unfold Oper.wpIn;refine⟨by simp[Oper.about,ho,resolve,Target.leads,Sem.run_pure],?_⟩;rw[Oper.semAt_plain F _ _ (by rw[ho];intro c gb;cases gb)];simp[execOp,ho,resolve,invoke,builtin,hs,hx,M,Result.andThen];exact hK _ _ (h v' w' h2 h3 h4)
def TX(n:Nat)(fv uv:Value)(b:Nat):Prop:=n<=b/\fv.ownBlock≠some b/\uv.ownBlock≠some b
end
section
open Go.RowKit Go.Lib Go.Proofs Go.Shelf
theorem pY{w w':World}{B:Nat}{e:TypeId}{s n:Nat}{v:Value}{xs:List Value}(h:w.ownsRow B e s v n xs)(J:∀g,v.ownBlock=some g->(∃c t f,w.heap[g]? = some (.cells c t f))->w'.heap[g]? = w.heap[g]?):w'.ownsRow B e s v n xs:=by
 refine⟨h.1,?_⟩;rcases h.2 with O|⟨g,cap,cur,I,M,D,r⟩
 ·exact .inl O
 ·exact .inr ⟨g,cap,cur,I,M,(J g (by rw[I];rfl) ⟨_,_,_,D⟩).trans D,r⟩
theorem EK{w:World}{B g:Nat}{e:TypeId}{s n:Nat}{cs:Array Value}(h:aa w g e cs)(J:B<=g)(D:cs.size=n*s)(I:n<=maxLen):w.ownsRow B e s (.slice (some ⟨g,0,none⟩) n n) n cs.toList:=
 ⟨by rw[kR,D],.inr ⟨g,n,cs,rfl,J,h,gA _,I,D,by rw[jU (by rw[kR,D];exact gA _)]⟩⟩
structure LS(n0 m0 base:Nat)(tv:Value)(path:ByteArray)(mi:Int)(F:List Bw)(U:List Un)(fv uv:Value)(V:World):Prop where
 t:aa V n0 24 #[tv]
 r:aa V (n0+1) 31 #[.string ⟨#[]⟩,.slice none 0 0]
 m:aa V m0 48 #[path,mi]
 fb:∀g,fv.ownBlock=some g->g=n0+1+1\/base<=g
 ub:∀g,uv.ownBlock=some g->base<=g
 f:aa V (m0+1) 32 #[fv]
 fo:V.ownsRow (n0+1+1) 38 3 fv F.length (yE F)
 o:aa V (m0+1+1) 31 #[path,uv]
 uo:∃xs,V.ownsRow base 43 6 uv U.length xs/\mQ (TX base fv uv) V U xs
section
variable {n0 m0 lo base:Nat} {tv:Value} {path:ByteArray} {mi:Int} {F:List Bw} {U:List Un} {fv uv:Value} {V V':World}
theorem LS.keep(h:LS n0 m0 base tv path mi F U fv uv V)(O:n0+1+1<m0)(M:m0+1+1<lo)(D:∀b,(b<lo\/base<=b)->(∃c t f,V.heap[b]? = some (.cells c t f))->V'.heap[b]? = V.heap[b]?):LS n0 m0 base tv path mi F U fv uv V':=by
 have kb:∀{b:Nat}{t:TypeId}{cs:Array Value},aa V b t cs->b<lo->aa V' b t cs:=fun hb hl=>(D _ (.inl hl) ⟨_,_,_,hb⟩).trans hb;obtain⟨xs,J,I⟩:=h.uo;exact⟨kb h.t (by omega),kb h.r (by omega),kb h.m (by omega),h.fb,h.ub,kb h.f (by omega),pY h.fo fun g hg hc=>D g (by rcases h.fb g hg with rfl|h;(left;omega);exact .inr h) hc,kb h.o (by omega),
  xs,pY J fun g hg hc=>D g (.inr (h.ub g hg)) hc,mQ.keepC (fun b hb hc=>D b (.inr hb.1) hc) _ _ I⟩
theorem LS.below(h:LS n0 m0 base tv path mi F U fv uv V)(I:n0+1+1<m0)(hb:Below V V V'):LS n0 m0 base tv path mi F U fv uv V':=
 h.keep (lo:=m0+1+1+1) I (by omega) fun b _⟨_,_,_,D⟩=>hb.block b (Array.getElem?_eq_some_iff.1 D).1
theorem iT{w:World}{p:Addr}{v:Value}{k:Nat}(h:k≠p.block):(w.setCell p v).heap[k]? = w.heap[k]? :=gF w p v k h
theorem LS.found(h:LS n0 m0 base tv path mi F U fv uv V)(h1:n0+1+1<m0)(h2:m0+1+1<base){v':Value}{N:List Bw}{k S:Nat}(I:V.grownBy V' fv.ownBlock)(M:V'.ownsRow (n0+1+1) 38 3 v' (F.length+k) (yE F++yE N))(hk:N.length=k)
  (q:v'.ownBlock=fv.ownBlock\/v'.ownBlock=some S)(hS:V.heap.size<=S)(ga:base<=V.heap.size):LS n0 m0 base tv path mi (F++N) U v' uv (V'.setCell ⟨m0+1,0,none⟩ v'):=by
 have fb':∀g,v'.ownBlock=some g->g=n0+1+1\/base<=g:=fun g I=>by
  rcases q with e|e
  ·exact h.fb g (by rw[<-e];exact I)
  ·rw[e]at I;injection I with I;right;omega
 have kb:∀{b:Nat}{t:TypeId}{cs:Array Value},aa V b t cs->b<base->b≠n0+1+1->b≠m0+1->aa (V'.setCell ⟨m0+1,0,none⟩ v') b t cs:=fun hb hl hn hne=>
  (hb.grown I (fun e=>by rcases h.fb _ e.symm with h|h<;>omega)).far (p:=⟨m0+1,0,none⟩) hne v'
 obtain⟨xs,z,h4⟩:=h.uo;have same:∀b,base<=b->fv.ownBlock≠some b->(∃c t f,V.heap[b]? = some (.cells c t f))->(V'.setCell ⟨m0+1,0,none⟩ v').heap[b]? = V.heap[b]? :=fun b hb hne⟨_,_,_,O⟩=>
  (iT (p:=⟨m0+1,0,none⟩) (by show b≠m0+1;omega)).trans (I.block b (Array.getElem?_eq_some_iff.1 O).1 fun e=>hne e.symm)
 refine⟨kb h.t (by omega) (by omega) (by omega),kb h.r (by omega) (by omega) (by omega),kb h.m (by omega) (by omega) (by omega),fb',h.ub,?_,?_,kb h.o (by omega) (by omega) (by omega),xs,pY z fun g D O=>same g (h.ub g D) (fun e=>?_) O,?_⟩
 ·have:=(h.f.grown I (fun e=>by rcases h.fb _ e.symm with h|h<;>omega)).set_ 0 v';simpa using this
 ·rw[gJ,hk,Mf];exact pY M fun g I _=>iT (p:=⟨m0+1,0,none⟩) (by rcases fb' g I with h|h<;>(show g≠m0+1;omega))
 ·
  rcases h.fo.2 with⟨y,_⟩|⟨g1,_,_,e1,_,hh,_⟩
  ·rw[y]at e;cases e
  ·rcases z.2 with⟨y,_⟩|⟨g2,_,_,e2,_,J,_⟩
   ·rw[y]at D;cases D
   ·rw[e1]at e;rw[e2]at D;have e:some g1=some g:=e;have D:some g2=some g:=D;injection e with e;injection D with D;subst e;subst D;rw[hh]at J;injection J with J;injection J with _ ht;revert ht;decide
 ·refine mQ.mono (fun b hb _=>?_) _ _ (mQ.keepC (fun b hb O=>same b hb.1.1 hb.1.2.1 O) _ _ (mQ.mono (Y:=fun b=>TX base fv uv b/\b<V.heap.size) (fun b hb x=>⟨hb,x⟩) _ _ h4));refine⟨hb.1.1,fun e=>?_,hb.1.2.2⟩;rcases q with e'|e'
  ·exact hb.1.2.1 (by rw[<-e'];exact e)
  ·rw[e']at e;injection e with e;have:=hb.2;omega
theorem LS.unit(h:LS n0 m0 base tv path mi F U fv uv V)(h1:n0+1+1<m0)(h2:m0+1+1<base){v':Value}{name:ByteArray}{mo:Int}{n:Nd}{A:Option Addr}{c S:Nat}{xs:List Value}(z:V.ownsRow base 43 6 uv U.length xs)(y:mQ (TX base fv uv) V U xs)(I:V.grownBy V' uv.ownBlock)
  (M:V'.ownsRow base 43 6 v' (U.length+1) (xs++[.string name,.int .i64 mo,.int .i64 n.kind,.string n.text,.slice A n.kids.length c,.int .i64 n.pos]))
  (hn:aq (TX base fv uv) V (.agg (nv n A c)) n)
  (q:v'.ownBlock=uv.ownBlock\/v'.ownBlock=some S)(hS:V.heap.size<=S)(gb:base<=V.heap.size):LS n0 m0 base tv path mi F (U++[(name,mo,n)]) fv v' (V'.setCell ⟨m0+1+1,1,none⟩ v'):=by
 have ub':∀g,v'.ownBlock=some g->base<=g:=fun g I=>by
  rcases q with e|e
  ·exact h.ub g (by rw[<-e];exact I)
  ·rw[e]at I;injection I with I;omega
 have kb:∀{b:Nat}{t:TypeId}{cs:Array Value},aa V b t cs->b<base->b≠m0+1+1->aa (V'.setCell ⟨m0+1+1,1,none⟩ v') b t cs:=fun hb hl hne=>
  (hb.grown I (fun e=>by have:=h.ub _ e.symm;omega)).far (p:=⟨m0+1+1,1,none⟩) hne v'
 have same:∀b,uv.ownBlock≠some b->b≠m0+1+1->(∃c t f,V.heap[b]? = some (.cells c t f))->(V'.setCell ⟨m0+1+1,1,none⟩ v').heap[b]? = V.heap[b]? :=fun b hne hbm⟨_,_,_,O⟩=>
  (iT (p:=⟨m0+1+1,1,none⟩) hbm).trans (I.block b (Array.getElem?_eq_some_iff.1 O).1 fun e=>hne e.symm)
 have apart:∀g,fv.ownBlock=some g->uv.ownBlock≠some g:=fun g D e=>by
  rcases h.fo.2 with⟨e0,_⟩|⟨g1,_,_,e1,_,hh,_⟩
  ·rw[e0]at D;cases D
  ·rcases z.2 with⟨e0,_⟩|⟨g2,_,_,e2,_,J,_⟩
   ·rw[e0]at e;cases e
   ·rw[e1]at D;rw[e2]at e;have D:some g1=some g:=D;have e:some g2=some g:=e;injection e with e;injection D with D;subst e;subst D;rw[hh]at J;injection J with J;injection J with _ ht;revert ht;decide
 refine⟨kb h.t (by omega) (by omega),kb h.r (by omega) (by omega),kb h.m (by omega) (by omega),h.fb,ub',kb h.f (by omega) (by omega),pY h.fo fun g D O=>same g (apart g D) (by rcases h.fb g D with h|h<;>omega) O,?_,_,pY (by rw[gJ];exact M) fun g I _=>iT (p:=⟨m0+1+1,1,none⟩) (by have:=ub' g I;show g≠m0+1+1;omega),?_⟩
 ·have:=(h.o.grown I (fun e=>by have:=h.ub _ e.symm;omega)).set_ 1 v';simpa using this
 ·have x:mQ (TX base fv uv) V (U++[(name,mo,n)]) (xs++[.string name,.int .i64 mo,.int .i64 n.kind,.string n.text,.slice A n.kids.length c,.int .i64 n.pos]):=mQ.app _ _ _ _ y ⟨A,c,[],rfl,hn,rfl⟩;refine mQ.mono (fun b hb _=>?_) _ _ (mQ.keepC (fun b hb O=>same b hb.1.2.2 (by have:=hb.1.1;omega) O) _ _ (mQ.mono (Y:=fun b=>TX base fv uv b/\b<V.heap.size) (fun b hb ga=>⟨hb,ga⟩) _ _ x));refine⟨hb.1.1,hb.1.2.1,fun e=>?_⟩;rcases q with e'|e'
  ·exact hb.1.2.2 (by rw[<-e'];exact e)
  ·rw[e']at e;injection e with e;have:=hb.2;omega
end
end
end Go.Proofs.YtcoiialmdncpfaaGreatDoor
