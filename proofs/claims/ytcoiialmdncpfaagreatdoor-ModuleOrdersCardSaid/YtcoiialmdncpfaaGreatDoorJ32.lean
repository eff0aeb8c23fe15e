/-
  Parts of the proof: Olines Opath Mread Oread Mown. By an AI agent.
-/
import Derived.Test.YtcoiialmdncpfaaGreatDoorJ20
import Derived.Test.YtcoiialmdncpfaaGreatDoorJ31
import Derived.Test.YtcoiialmdncpfaaGreatDoorJ21
import Derived.Test.YtcoiialmdncpfaaGreatDoorJ08
import Derived.Test.YtcoiialmdncpfaaGreatDoorJ11
import Derived.Test.YtcoiialmdncpfaaGreatDoorJ22
import Derived.Laws.EntriesVeiled
open Go.Proofs.Tryz
set_option maxRecDepth 100000
set_option maxHeartbeats 8000000
namespace Go.Proofs.YtcoiialmdncpfaaGreatDoor
section
open Go.RowKit Go.Lib Go.Proofs Go.Shelf
attribute [local go_sem ↓] Go.wp_at_zero Go.wp_at_succ
attribute [local go_sem] Oper.semAt_some
theorem qM:type_of% @Go.CallsIn.inRound:=@Go.CallsIn.inRound
theorem GK(A:Option Addr)(c:Nat)(s:ByteArray)(hs:s.size<=65536)(w:World)(hv:bR w A c s)(hT:bQ w)(q:Nat)(hq:aa w q 22 #[.slice A s.size c])(Cx:Nat->Prop)(z:∀k,Cx k->k<w.heap.size)
  (hC:¬ Cx q/\¬ Cx 0/\∀g,A=some g->¬ Cx g.block):
  Br True prog 28 #[q] NM (·.2) (fun x W=>NL W x.1 x.2) Cx (nD s) (fun _=>False) 4 w:=by
 rintro m l J Z W-hl hl2 hA hbox hCK hJ hZ hY h0;clear hCK;(have gk:∀k:Nat,((Fence.wide).depth.isSome=true->1<=k):=fun k h=>by cases h);have M:Below w w W:=⟨hA.bel.os,hA.bel.tape,hA.bel.output,hA.bel.size,fun k hk=>hA.same k hk (fun h=>h) fun h=>by omega⟩;(have hg:0<w.heap.size:=by obtain⟨mv,I⟩:=hT;exact gU w _ I);have hV:=hv.below M;have hQ:=hq.below M hq.lt;have g6:=hT.below M;have gb:Below W W (W.alloc (.cells #[.func (.yield l) #[] #[]] 85)):=(gC _ _).alloc (gA _) _;have gu:=hV.below gb;have gx:=hQ.alloc (.cells #[.func (.yield l) #[] #[]] 85);have gl:=aa.new W 85 #[.func (.yield l) #[] #[]];have g3:=gu.conv;have x0:=aw gx;have y0:=aw gl;have ha:=M.size;(have gt:(W.alloc (.cells #[.func (.yield l) #[] #[]] 85)).heap.size=W.heap.size+1:=by simp);have gw:=g6.below gb;have HY:=hid hY;have HJ:=hid hJ;have HZ:=hid hZ;clear hbox hY hJ hZ hv hT hq;refine vz func28 rfl trivial ?_ rfl;simp only[ntmps28,jR,gI,jT,Nat.reduceAdd,Nat.reduceSub,kT,kU,qC,kY,qE,kV]
 gi_wp2
 refine⟨trivial,gk _,(callsIn_wide.2 (r6 s ⟨#[10]⟩ _)).mono ?_⟩;rintro e w1⟨rfl,ga,g1,gh,gi,gg⟩;rw[gt]at g1 gh gi gg |-;have g5:=gl.below ga (by rw[gt];omega);have gv:=gw.below ga;have gs:=Az 10 s hs w1 gv _ _ _ gi gh gg (by omega) (by omega) (fun k=>Cx k\/k=l) (by omega) ⟨(by rintro(h|h);(have:=z _ h;omega);omega),(by rintro(h|h);(have:=z _ h;omega);omega),(by rintro(h|h);(have:=z _ h;omega);omega),(by rintro(h|h);(exact hC.2.1 h);omega)⟩;have g4:Below W W w1:=aE gb ga;have g7:=HJ.out _ _ _ h0 (Ab.below g4);clear ga gh gi gg gb gu gx gl g3 gw x0 y0 h0
 gi_wp2
 refine oX (encs:=fun x:ByteArray =>#[.string x]) rfl AA gs (fun b hb=>by have hb:b=W.heap.size+1:=hb;omega) (by rintro b(h|h);(have:=z _ h;omega);omega) (fun _=>rfl)
  (fun pre V=>∃ys:List PE,ys.map (·.2)=(pre.map ep).filter (fun l =>!l.isEmpty)/\J ys V/\aa V W.heap.size 85 #[.func (.yield l) #[] #[]]/\bQ V)
  Z (fun x a' _=>a'={ tmps:=#[.func (.yield l) #[] #[],.pointer (some ⟨q,0,none⟩),.pointer (some ⟨W,0,none⟩),.string x,undef,.slice A s.size c,.string s,.func (.func 103) #[] #[.pointer (some ⟨W.heap.size+1+1,0,none⟩),.pointer (some ⟨W.heap.size+1,0,none⟩),.pointer (some ⟨W.heap.size+1+2,0,none⟩)],.string x,undef,undef,undef,undef,undef,undef,undef,undef,undef,undef,undef],defers:=[] })
  ?keepz ?keep (fun _ _ _ _ h _=>h) ⟨[],rfl,g7,g5,gv⟩ ?assign ?body ?retz ?done
 case keepz=>rintro X Y h2 y;have hx:∀b,(b=W.heap.size+1\/(w1.heap.size+2<=b/\b<w1.heap.size+2+0))->b=W.heap.size+1:=fun b h=>h.elim id (by omega);exact HZ.out _ _ h2 (y.mono (by omega) fun b h=>by have:=hx b h;exact .inr (by omega))
 case keep=>rintro s' X Y⟨ys,h1,h2,h3,h4⟩y;have hx:∀b,(b=W.heap.size+1\/(w1.heap.size+2<=b/\b<w1.heap.size+2+0))->b=W.heap.size+1:=fun b h=>h.elim id (by omega);refine⟨ys,h1,HJ.out _ _ _ h2 (y.mono (by omega) fun b h=>by have:=hx b h;exact .inr (by omega)),y.blk h3 (fun h=>by have:=hx _ h;omega),?_⟩;obtain⟨mv,I⟩:=h4;exact⟨mv,(jM (y.same _ (gU _ _ I) (fun h=>by have h2:0=W.heap.size+1:=hx _ h;omega) fun h=>absurd h (by show ¬ w1.heap.size<=0;omega))).trans I⟩
 case assign=>
  intro l' pre x V G hi _ hG
  gi_wp2
  exact hG _ _ (Kx.refl _ _) hi rfl
 case body=>
  rintro l' pre x r a' V hx⟨ys,h1,h2,h3,h4⟩rfl hl' hvz;rw[vq]at hx;have g0:x.size<=65536:=gM (sO 10 s.size s x (by rw[show lO 10 s.size s=mj 10 s from rfl,<-hx];simp)) hs;have HW:=hid (GJ x V g0 h4);have HX:=hid (show nD s=ys.map (·.2)++(if(ep x).isEmpty then[]else[ep x])++(r.map ep).filter (fun l =>!l.isEmpty)by unfold nD;rw[<-hx,h1,kW,vX,List.filter_append,List.filter_cons,qS];cases(ep x).isEmpty<;>rfl);have HP:=hid (show((pre++[x]).map ep).filter (fun l =>!l.isEmpty)=ys.map (·.2)++(if(ep x).isEmpty then[]else[ep x])by rw[h1,kW,List.filter_append];simp only[vX,List.map_nil,List.filter_cons,List.filter_nil];cases(ep x).isEmpty<;>rfl);have H4:=hid h4;clear hx h1 h4
  gi_wp2
  refine⟨trivial,gk _,(qM l' (callsIn_wide.2 HW.out)).mono ?_⟩;rintro e V2⟨B,rfl,hB,gd,hb⟩;have gm:=h3.bl hb;have gn:=HJ.out _ _ _ h2 (Ab.below hb);have gy:=H4.out.below hb;have y0:=aw gm;clear HW;generalize ep x=ws at *;cases he:ws.isEmpty with
  | true=>
   have hf:ws.length=0:=by cases ws with
    |nil=>rfl
    |cons a b=>cases he
   (have g2:decide (0<ws.length)=false:=by rw[gH];omega);have hc:decide ((0:Int)<(ws.length:Int))=false:=by rw[gH];omega
   gi_wp2
   refine⟨fun _ h=>(by cases h),?_⟩
   gi_wp2
   exact⟨Kx.below hb,ys,by rw[HP.out,he];simp,gn,gm,gy⟩
  | false=>
   have g2:0<ws.length:=by cases ws with
    |nil=>cases he
    |cons a b=>simp
   obtain⟨fn,tmps,assign,body,hy,gr⟩:=YieldAt.anyM (m':=m-1) (HY.out ys (B,ws) ((r.map ep).filter fun l =>!l.isEmpty) V2 gn (by rw[HX.out,he];simp) gd (by have:=hb.size;omega));unfold NM at hy;dsimp only at hy;have gp:=hid gr;have HB:=hid hb;clear gr hb gd gn
   gi_wp2
   refine⟨gk _,RoundIn.mono (F:=Fence.wide.inRound l') gp.out ?_⟩;rintro e V3⟨go,rfl,gj,ge,O⟩;have gz:=hid O;cases go
   ·have g8:=hid (ge rfl);clear gj ge O gp hy
    gi_wp2
    exact⟨(Kx.below HB.out).trans gz.out,g8.out⟩
   have g9:=hid (gj rfl);have h3'':=O.blk gm (by rintro(h|h);(have:=z _ h;omega);omega);have H4'':Hid (bQ V3):=hid (by obtain⟨mv,I⟩:=gy;exact⟨mv,(jM (O.same _ (gU _ _ I) (by rintro(h|h);(exact hC.2.1 h);(have h:0=l:=h;omega)))).trans I⟩);clear gj ge O gp hy
   gi_wp2
   exact⟨(Kx.below HB.out).trans gz.out,ys++[(B,ws)],by rw[HP.out,he];simp,g9.out,h3'',H4''.out⟩
 case retz=>
  rintro D V hD hz hK
  gi_wp2
  refine⟨by simp,.inl ⟨_,_,rfl,qP hK,?_⟩⟩;exact⟨.tuple #[],qI rfl _ _ _,⟨_,rfl⟩,.inr (HZ.out _ _ hz (.putObj V _ (by omega) (Array.getElem?_eq_some_iff.1 hK).1 fun c t f e=>by rw[hK]at e;cases e))⟩
 case done=>
  rintro D ys V hD gq⟨zs,h1,h2,h3,h4⟩hK;rw[vq]at gq
  gi_wp2
  refine⟨by simp,.inl ⟨_,_,rfl,qP hK,?_⟩⟩;exact⟨.tuple #[],qI rfl _ _ _,⟨_,rfl⟩,.inl ⟨zs,by rw[h1,gq];rfl,HJ.out _ _ _ h2 (.putObj V _ (by omega) (Array.getElem?_eq_some_iff.1 hK).1 fun c t f e=>by rw[hK]at e;cases e)⟩⟩
def Dm(s:ByteArray):Bool:=(mj 47 s).all (nh fR)&&decide (s.size<=200)
theorem L6(k:Nat)(s:ByteArray)(hs:s.size<=65536)(w:World)(hT:bQ w):CallsIn Fence.wide k prog 13 #[s] w fun e w'=>e=.returned (.bool (Dm s))/\Below w w w':=by
 (have gh:∀k:Nat,((Fence.wide).depth.isSome=true->1<=k):=fun k h=>by cases h);have HT:=hid hT;have HL:=hid (show decide ((s.size:Int)<=(200:Int))=decide (s.size<=200)by congr 1;simp;omega);have HP:=hid (show Dm s=((mj 47 s).all (nh fR)&&decide (s.size<=200))from rfl);generalize Dm s=z at *;refine vz func13 rfl trivial ?_ rfl;simp only[ntmps13,jR,gI,jT,Nat.reduceAdd,Nat.reduceSub,kT,kU,qC,kY,qE,kV];have gp:Below w w ((w.alloc (.cells #[.bool false] 4)).alloc (.cells #[.func (.func 31) #[] #[]] 90)):=bel;have gk:aa ((w.alloc (.cells #[.bool false] 4)).alloc (.cells #[.func (.func 31) #[] #[]] 90)) w.heap.size 4 #[.bool false]:=(aa.new w _ _).alloc _;have gm:aa ((w.alloc (.cells #[.bool false] 4)).alloc (.cells #[.func (.func 31) #[] #[]] 90)) (w.heap.size+1) 90 #[.func (.func 31) #[] #[]]:=aa.new_at (by simp) _ _;(have gb:((w.alloc (.cells #[.bool false] 4)).alloc (.cells #[.func (.func 31) #[] #[]] 90)).heap.size=w.heap.size+2:=by simp);have gw:0<w.heap.size:=by obtain⟨mv,gr⟩:=hT;exact gU w _ gr
 gi_wp2
 refine⟨trivial,gh _,(callsIn_wide.2 (r6 s ⟨#[47]⟩ _)).mono ?_⟩;rintro e w1⟨rfl,ga,gq,ge,gg,gd⟩;rw[gb]at gq ge gg gd |-;have gn:=aE gp ga;have gt:=gk.below ga (by rw[gb];omega);have gu:=gm.below ga (by rw[gb];omega);have gs:=HT.out.below gn;have gj:=Az 47 s hs w1 gs _ _ _ gg ge gd (by omega) (by omega) (fun k=>k=w.heap.size) (by omega) ⟨by omega,by omega,by omega,(fun h=>by have h:0=w.heap.size:=h;omega)⟩;clear ga ge gg gd gp gk gm hT
 gi_wp2
 refine oX (encs:=fun x:ByteArray =>#[.string x]) rfl AA gj (fun b hb=>by have hb:b=w.heap.size+2:=hb;omega) (by rintro b rfl;omega) (fun _=>rfl)
  (fun pre W=>Below w w W/\aa W w.heap.size 4 #[.bool false]/\aa W (w.heap.size+1) 90 #[.func (.func 31) #[] #[]]/\Hid (pre.all (nh fR)=true))
  (fun W=>Below w w W/\aa W w.heap.size 4 #[.bool false]/\Hid (z=false))
  (fun x a' _=>a'={ tmps:=#[.string s,undef,.pointer (some ⟨w,0,none⟩),.pointer (some ⟨w.heap.size+1,0,none⟩),.string x,.string s,.func (.func 103) #[] #[.pointer (some ⟨w.heap.size+2+1,0,none⟩),.pointer (some ⟨w.heap.size+2,0,none⟩),.pointer (some ⟨w.heap.size+2+2,0,none⟩)],.string x,undef,undef,undef,undef,undef,undef,undef],defers:=[] })
  ?keepz ?keep (fun _ _ _ _ h _=>h) ⟨gn,gt,gu,hid rfl⟩ ?assign ?body ?retz ?done
 case keepz=>rintro A B⟨M,J,h3⟩I;have O:∀b,(b=w.heap.size+2\/(w1.heap.size+2<=b/\b<w1.heap.size+2+0))->b=w.heap.size+2:=fun b h=>h.elim id (by omega);exact⟨I.belowOf M (by omega) fun b hb=>by have:=O b hb;omega,I.blk J (fun h=>by have:=O _ h;omega),h3⟩
 case keep=>rintro s' A B⟨M,J,h3,h4⟩I;have O:∀b,(b=w.heap.size+2\/(w1.heap.size+2<=b/\b<w1.heap.size+2+0))->b=w.heap.size+2:=fun b h=>h.elim id (by omega);exact⟨I.belowOf M (by omega) fun b hb=>by have:=O b hb;omega,I.blk J (fun h=>by have:=O _ h;omega),I.blk h3 (fun h=>by have:=O _ h;omega),h4⟩
 case assign=>
  intro l pre x W K hi _ hK
  gi_wp2
  exact hK _ _ (Kx.refl _ _) hi rfl
 case body=>
  rintro l pre x r a' W O⟨M,J,h3,h4⟩rfl hl -;have HX:=hid O;have y0:=aw h3;have HA:=hid (ES 31 fR FD FE x W);clear O;cases hv:nh fR x with
  |true=>
   rw[hv]at HA;have H5:Hid ((pre++[x]).all (nh fR)=true):=hid (by rw[List.all_append,h4.out];simp[hv]);clear hv
   gi_wp2
   refine⟨trivial,gh _,(qM l (callsIn_wide.2 HA.out)).mono ?_⟩;rintro e W2⟨rfl,hb⟩
   gi_wp2
   exact⟨Kx.below hb,aE M hb,J.bl hb,h3.bl hb,H5⟩
  |false=>
   rw[hv]at HA;have H5:Hid (z=false):=hid (by rw[HP.out,show mj 47 s=pre.map (fun y=>y)++x::r from HX.out.symm,vq];simp[hv]);clear hv
   gi_wp2
   refine⟨trivial,gh _,(qM l (callsIn_wide.2 HA.out)).mono ?_⟩;rintro e W2⟨rfl,hb⟩;have g2:=J.bl hb;have y1:=g2.frozen 0;have y2:=aw g2
   gi_wp2
   exact⟨(Kx.below hb).trans (Kx.setCell (Cx:=fun k=>k=w.heap.size) _ rfl 0 _),(aE M hb).setCell (p:=⟨w,0,none⟩) (gA _) _,by simpa using g2.set_ 0 (.bool false),H5⟩
 case retz=>
  rintro D W hD⟨M,J,h3⟩hK
  gi_wp2
  have gi:aa (W.putObj D (.deferred none)) w.heap.size 4 #[.bool false]:=(jL (by omega)).trans J;have z0:=aw gi;refine⟨by simp,.inl ⟨_,_,rfl,qP hK,?_⟩⟩;refine⟨.bool false,?_,by rw[h3.out],M.trans (belowK_b (w:=w) (gA _) _ D _ _ (by omega) hK rfl rfl)⟩;simp[results,results13,go_sem,z0]
 case done=>
  rintro D ys W hD hys⟨M,J,h3,h4⟩hK;have y0:=aw J;have f0:=J.frozen 0;have hz:=HP.out;rw[show mj 47 s=ys from by rw[<-hys,vq],h4.out,vD,<-HL.out]at hz;have HZ:=hid hz;clear hz hys
  gi_wp2
  generalize decide ((s.size:Int)<=200)=q at *;have gl:(W.setCell ⟨w,0,none⟩ (.bool q)).heap[D]? = some (.deferred (some [])):=(gF W ⟨w,0,none⟩ _ D (by show D≠w.heap.size;omega)).trans hK;have gi:aa ((W.setCell ⟨w,0,none⟩ (.bool q)).putObj D (.deferred none)) w.heap.size 4 #[.bool q]:=(jL (by omega)).trans (show aa (W.setCell ⟨w,0,none⟩ (.bool q)) w.heap.size 4 #[.bool q]by simpa using J.set_ 0 (.bool q));have gv:Below w w ((W.setCell ⟨w,0,none⟩ (.bool q)).putObj D (.deferred none)):=(M.setCell (p:=⟨w,0,none⟩) (gA _) _).trans (belowK_b (w:=w) (gA _) _ D _ _ (by omega) gl rfl rfl);have z0:=aw gi;refine⟨by simp,.inl ⟨_,_,rfl,qP gl,?_⟩⟩;refine⟨.bool q,?_,by rw[HZ.out],gv⟩;simp[results,results13,go_sem,z0]
theorem GL(A:Option Addr)(c:Nat)(s:ByteArray)(w:World):Calls prog 12 #[.slice A s.size c] w fun e w'=>
  e=.returned (.func (.func 28) #[] #[w])/\w'=w.alloc (.cells #[.slice A s.size c] 22):=by have D:∀(fn:Fn)(first cap:Array Value)(w:World),(Instr.makeFunc fn first cap).run prog w=.ok (.func fn first cap) w:=fun _ _ _ _=>rfl;(go_enter func12,ntmps12);go_wp2_with fail;go_ret;exact⟨rfl,rfl⟩
abbrev Fh:=ByteArray×Int×Int
def f7(st:Fh)(ws:List ByteArray):Option Fh:=match ws with
 | [k,v]=>if k=(⟨#[109,111,100,117,108,101]⟩:BA)then(if st.1=(⟨#[]⟩:BA)/\Dm v=true then some (v,st.2.1,st.2.2)else none)
   else if k=(⟨#[103,111]⟩:BA)then(if(nj v).2=0/\st.2.2=0 then some (st.1,(nj v).1,1)else none)
   else if k=(⟨#[116,111,111,108,99,104,97,105,110]⟩:BA)then some st else none
 |_=>none
def mP(st:Fh):List (List ByteArray)->Option Fh
 |[]=>some st
 | l::ls=>match f7 st l with
   |none=>none
   |some st'=>mP st' ls
def nE(s:ByteArray):ByteArray×Int×Int:=
 if 65536<s.size then((⟨#[]⟩:BA),0,12)else match mP ((⟨#[]⟩:BA),16,0) (nD s)with
  |some (p,m,_)=>if p=(⟨#[]⟩:BA)then((⟨#[]⟩:BA),0,7)else(p,m,0)
  |none=>((⟨#[]⟩:BA),0,7)
theorem L7(s x:ByteArray)(h:x∈ep s):x.size<=s.size:=by unfold ep Lib.goFieldsP at h;obtain⟨a,_,rfl⟩:=List.mem_map.1 h;have J:=ET s.data.toList [47,47];have I:s.data.toList.length=s.size:=kR;have D:(⟨(Lib.cut s.data.toList [47,47]).1.toArray⟩:ByteArray).size=(Lib.cut s.data.toList [47,47]).1.length:=jR;rw[gW];omega
theorem L8(s:ByteArray)(l:List ByteArray)(h:l∈nD s)(x:ByteArray)(I:x∈l):x.size<=s.size:=by unfold nD at h;obtain⟨y,D,rfl⟩:=List.mem_map.1 (List.mem_filter.1 h).1;exact gM (L7 y x I) (sO 10 s.size s y D)
theorem Dn(k:Nat)(A:Option Addr)(c:Nat)(s:ByteArray)(hs:s.size<=65536)(w:World)(hv:bR w A c s)(hT:bQ w)(hN:mG w):
  CallsIn Fence.wide k prog 9 #[.slice A s.size c] w fun e w'=>e=.returned (.tuple #[.agg #[.string (nE s).1,.int .i64 (nE s).2.1],.int .i64 (nE s).2.2])/\Below w w w':=by
 have HZ:Hid (nE s=match mP ((⟨#[]⟩:BA),16,0) (nD s)with
  |some (p,m,_)=>if p=(⟨#[]⟩:BA)then((⟨#[]⟩:BA),0,7)else(p,m,0)
  |none=>((⟨#[]⟩:BA),0,7)):=hid (by unfold nE;rw[gE (by omega)])
 generalize nE s=z at *;have HN:=hid hN;clear hN;(have gp:∀k:Nat,((Fence.wide).depth.isSome=true->1<=k):=fun k h=>by cases h);(have jr:0<w.heap.size:=by obtain⟨mv,gl⟩:=hT;exact gU w _ gl);(have jm:decide ((65536:Int)<(s.size:Int))=false:=by rw[gH];omega);refine vz func9 rfl trivial ?_ rfl;simp only[ntmps9,jR,gI,jT,Nat.reduceAdd,Nat.reduceSub,kT,kU,qC,kY,qE,kV];have ha:Below w w ((((w.alloc (.cells #[.string ⟨#[]⟩,.int .i64 0] 48)).alloc (.cells #[.int .i64 0] 49)).alloc (.cells #[.string ⟨#[]⟩,.int .i64 16] 48)).alloc (.cells #[.int .i64 0] 3)):=bel;have hw:aa ((((w.alloc (.cells #[.string ⟨#[]⟩,.int .i64 0] 48)).alloc (.cells #[.int .i64 0] 49)).alloc (.cells #[.string ⟨#[]⟩,.int .i64 16] 48)).alloc (.cells #[.int .i64 0] 3)) w.heap.size 48 #[.string ⟨#[]⟩,.int .i64 0]:=(((aa.new w _ _).alloc _).alloc _).alloc _;have ja:aa ((((w.alloc (.cells #[.string ⟨#[]⟩,.int .i64 0] 48)).alloc (.cells #[.int .i64 0] 49)).alloc (.cells #[.string ⟨#[]⟩,.int .i64 16] 48)).alloc (.cells #[.int .i64 0] 3)) (w.heap.size+1) 49 #[.int .i64 0]:=((aa.new_at (by simp) _ _).alloc _).alloc _;have h8:aa ((((w.alloc (.cells #[.string ⟨#[]⟩,.int .i64 0] 48)).alloc (.cells #[.int .i64 0] 49)).alloc (.cells #[.string ⟨#[]⟩,.int .i64 16] 48)).alloc (.cells #[.int .i64 0] 3)) (w.heap.size+1+1) 48 #[.string ⟨#[]⟩,.int .i64 16]:=(aa.new_at (by simp) _ _).alloc _;have h9:aa ((((w.alloc (.cells #[.string ⟨#[]⟩,.int .i64 0] 48)).alloc (.cells #[.int .i64 0] 49)).alloc (.cells #[.string ⟨#[]⟩,.int .i64 16] 48)).alloc (.cells #[.int .i64 0] 3)) (w.heap.size+1+1+1) 3 #[.int .i64 0]:=aa.new_at (by simp) _ _;have g8:((((w.alloc (.cells #[.string ⟨#[]⟩,.int .i64 0] 48)).alloc (.cells #[.int .i64 0] 49)).alloc (.cells #[.string ⟨#[]⟩,.int .i64 16] 48)).alloc (.cells #[.int .i64 0] 3)).heap.size=w.heap.size+4:=by simp
 gi_wp2
 refine⟨trivial,gp _,(callsIn_wide.2 (GL A c s _)).mono ?_⟩;rintro e w1⟨rfl,rfl⟩;have g9:=ha.alloc ha.size (.cells #[.slice A s.size c] 22);have jh:=hw.alloc (.cells #[.slice A s.size c] 22);have jk:=ja.alloc (.cells #[.slice A s.size c] 22);have ji:=h8.alloc (.cells #[.slice A s.size c] 22);have jj:=h9.alloc (.cells #[.slice A s.size c] 22);have h7:=aa.new_at g8 22 #[.slice A s.size c];(have jo:(((((w.alloc (.cells #[.string ⟨#[]⟩,.int .i64 0] 48)).alloc (.cells #[.int .i64 0] 49)).alloc (.cells #[.string ⟨#[]⟩,.int .i64 16] 48)).alloc (.cells #[.int .i64 0] 3)).alloc (.cells #[.slice A s.size c] 22)).heap.size=w.heap.size+5:=by simp);rw[g8];generalize((((w.alloc (.cells #[.string ⟨#[]⟩,.int .i64 0] 48)).alloc (.cells #[.int .i64 0] 49)).alloc (.cells #[.string ⟨#[]⟩,.int .i64 16] 48)).alloc (.cells #[.int .i64 0] 3)).alloc (.cells #[.slice A s.size c] 22)=w1 at *;have hm:=hv.below g9;have hu:=hT.below g9;have jl:∀g,A=some g->g.block<w.heap.size:=by
  rintro g rfl;rcases hv with⟨h,_⟩|⟨g',o,h,_,M,_⟩
  ·cases h
  ·injection h with h;rw[h];exact M
 have hp:=GK A c s hs w1 hm hu _ h7 (fun k=>w.heap.size<=k/\k<w.heap.size+4) (by omega) ⟨by omega,(fun h=>by have h:w.heap.size<=0:=h.1;omega),fun g hg h=>by have:=jl g hg;omega⟩;clear ha hw ja h8 h9 g8 h7 hm hv hT
 gi_wp2
 refine oX (encs:=NM) (val:=(·.2)) rfl EH hp nofun (by intro b h;omega) (fun _=>rfl)
  (fun pre V=>∃(p:ByteArray)(mi v:Int),Hid (∀r,mP ((⟨#[]⟩:BA),16,0) (pre.map (·.2)++r)=mP (p,mi,v) r)/\(v=0\/v=1)/\aa V w.heap.size 48 #[.string ⟨#[]⟩,.int .i64 0]/\aa V (w.heap.size+1) 49 #[.int .i64 0]/\aa V (w.heap.size+1+1) 48 #[p,mi] /\
   aa V (w.heap.size+1+1+1) 3 #[v]/\Below w w V/\bQ V)
  (fun V=>Hid (z=((⟨#[]⟩:BA),0,7))/\aa V w.heap.size 48 #[.string ⟨#[]⟩,.int .i64 0]/\aa V (w.heap.size+1) 49 #[.int .i64 7]/\Below w w V)
  (fun x a' V=>a'={ tmps:=#[.slice A s.size c,undef,.pointer (some ⟨w,0,none⟩),.pointer (some ⟨w.heap.size+1,0,none⟩),.pointer (some ⟨w.heap.size+1+1,0,none⟩),.pointer (some ⟨w.heap.size+1+1+1,0,none⟩),.slice (some ⟨x.1,0,none⟩) x.2.length x.2.length,undef,undef,.slice A s.size c,.int .i64 s.size,.bool false,undef,.agg #[.string ⟨#[]⟩,.int .i64 16],.slice A s.size c,.func (.func 28) #[] #[.pointer (some ⟨w.heap.size+4,0,none⟩)],.slice (some ⟨x.1,0,none⟩) x.2.length x.2.length,undef,undef,undef,undef,undef,undef,undef,undef,undef,undef,undef,undef,undef,undef,undef,undef,undef,undef,undef,undef,undef,undef,undef,undef,undef,undef,undef,undef,undef,undef,undef,undef,undef,undef,undef,undef,undef,undef,undef,undef,undef,undef,undef,undef,undef,undef,undef,undef,undef,undef,undef,undef],defers:=[] }/\NL V x.1 x.2)
  ?keepz ?keep ?keepx ⟨_,_,_,hid fun _=>rfl,.inl rfl,jh,jk,ji,jj,g9,hu⟩ ?assign ?body ?retz ?done
 case keepz=>rintro X Y⟨h0,O,M,h5⟩J;have hx:∀b,(False\/(w1.heap.size+2<=b/\b<w1.heap.size+2+4))->w1.heap.size+2<=b:=fun b h=>h.elim nofun And.left;exact⟨h0,J.blk O (fun h=>by have:=hx _ h;omega),J.blk M (fun h=>by have:=hx _ h;omega),J.belowOf h5 (by omega) (fun b h=>by have:=hx _ h;omega)⟩
 case keep=>rintro s' X Y⟨p,mi,v,h0,gh,O,M,h3,h4,h5,h6⟩J;have hx:∀b,(False\/(w1.heap.size+2<=b/\b<w1.heap.size+2+4))->w1.heap.size+2<=b:=fun b h=>h.elim nofun And.left;refine⟨p,mi,v,h0,gh,J.blk O (fun h=>by have:=hx _ h;omega),J.blk M (fun h=>by have:=hx _ h;omega),J.blk h3 (fun h=>by have:=hx _ h;omega),J.blk h4 (fun h=>by have:=hx _ h;omega),J.belowOf h5 (by omega) (fun b h=>by have:=hx _ h;omega),?_⟩;obtain⟨mv,gl⟩:=h6;exact⟨mv,(jM (J.same _ (gU _ _ gl) (fun h=>by have M:w1.heap.size+2<=0:=hx _ h;omega) fun h=>absurd h (by show ¬ w1.heap.size<=0;omega))).trans gl⟩
 case keepx=>
  rintro x a' X Y⟨O,M,h3⟩J;exact⟨O,jY M J.bel.size,fun j hj=>by
   have hc:=h3 j hj;obtain⟨o,ho,je⟩:=cells_of_cell hc;have g7:∃c t f,X.heap[x.1]? = some (.cells c t f):=by
    cases o with
    |cells c t f=>exact⟨c,t,f,ho⟩
    |_=>cases je
   exact(jM (J.same _ M (fun h=>h) fun _=>g7)).trans hc⟩
 case assign=>
  intro l' pre x V G hi jd hG;unfold NM
  gi_wp2
  exact hG _ _ (Kx.refl _ _) hi ⟨rfl,jd⟩
 case body=>
  rintro l' pre x r a' V hx⟨p,mi,v,h0,gh,O,M,h3,h4,h5,h6⟩⟨rfl,gj⟩hl' -;obtain⟨b,ws⟩:=x;have HX:=hid (show mP ((⟨#[]⟩:BA),16,0) (nD s)=mP (p,mi,v) (ws::r)by rw[<-hx];exact h0.out _);have jb:∀y∈ws,y.size<=65536:=fun y hy=>gM (L8 s ws (by rw[<-hx];simp) y hy) hs;(have HS:Hid (∀st,f7 (p,mi,v) ws=some st->∀r',mP ((⟨#[]⟩:BA),16,0) ((pre++[((b,ws):PE)]).map (·.2)++r')=mP st r'):=hid fun st jc r'=>by rw[kW,qS,h0.out];show mP (p,mi,v) (ws::r')=_;rw[mP,jc]);(have ga:Hid (f7 (p,mi,v) ws=none->z=((⟨#[]⟩:BA),0,7)):=hid fun hn=>by rw[HZ.out,HX.out,mP,hn]);clear hx h0 HX;have gg:=hid (fun(U:World)(g1:aa U w.heap.size 48 #[.string ⟨#[]⟩,.int .i64 0])(g2:aa U (w.heap.size+1) 49 #[.int .i64 0])(g5:Below w w U)(hK:Kx (fun k=>w.heap.size<=k/\k<w.heap.size+4) V U)(hz:z=((⟨#[]⟩:BA),0,7))=>show(let U':=((U.setCell ⟨w,0,none⟩ (.string ⟨#[]⟩)).setCell ⟨w,1,none⟩ (.int .i64 0)).setCell ⟨w.heap.size+1,0,none⟩ (.int .i64 7);Kx (fun k=>w.heap.size<=k/\k<w.heap.size+4) V U'/\Hid (z=((⟨#[]⟩:BA),0,7))/\aa U' w.heap.size 48 #[.string ⟨#[]⟩,.int .i64 0]/\aa U' (w.heap.size+1) 49 #[.int .i64 7]/\Below w w U')from
   ⟨((hK.trans (Kx.setCell (Cx:=fun k=>w.heap.size<=k/\k<w.heap.size+4) U (by omega) 0 _)).trans (Kx.setCell (Cx:=fun k=>w.heap.size<=k/\k<w.heap.size+4) _ (by omega) 1 _)).trans (Kx.setCell (Cx:=fun k=>w.heap.size<=k/\k<w.heap.size+4) _ (by omega) 0 _),hid hz,
     (show aa ((U.setCell ⟨w,0,none⟩ (.string ⟨#[]⟩)).setCell ⟨w,1,none⟩ (.int .i64 0)) w.heap.size 48 #[.string ⟨#[]⟩,.int .i64 0]by simpa using(g1.set_ 0 (.string ⟨#[]⟩)).set_ 1 (.int .i64 0)).far (p:=⟨w.heap.size+1,0,none⟩) (by show w.heap.size≠w.heap.size+1;omega) _,
     by simpa using((g2.far (p:=⟨w,0,none⟩) (by show w.heap.size+1≠w.heap.size;omega) (.string ⟨#[]⟩)).far (p:=⟨w,1,none⟩) (by show w.heap.size+1≠w.heap.size;omega) (.int .i64 0)).set_ 0 (.int .i64 7),
     ((g5.setCell (p:=⟨w,0,none⟩) (gA _) (.string ⟨#[]⟩)).setCell (p:=⟨w,1,none⟩) (gA _) (.int .i64 0)).setCell (p:=⟨w.heap.size+1,0,none⟩) (jC _) (.int .i64 7)⟩)
  have r0:V.cell? ⟨w,0,none⟩=some (.string ⟨#[]⟩):=(O.cell 0).trans rfl;have r1:V.cell? ⟨w,1,none⟩=some (.int .i64 0):=(O.cell 1).trans rfl;have gd:=O.frozen 0;have gb:=O.frozen 1;have e0:=aw M;have ef:=M.frozen 0;by_cases he:ws.length=2
  ·obtain⟨k0,v0,rfl⟩:∃k0 v0,ws=[k0,v0]:=by
    match ws,he with
    |[a,b],_=>exact⟨a,b,rfl⟩
   have c0:V.cell? ⟨b,0,none⟩=some (.string k0):=gj.2 0 (by simp);have c1:V.cell? ⟨b,1,none⟩=some (.string v0):=gj.2 1 (by simp);have jf:=gj.1;clear gj he;have gy:[k0,v0].length=2:=rfl;have hl:v0.size<=65536:=jb v0 (by simp);by_cases hk:k0=(⟨#[109,111,100,117,108,101]⟩:BA)
   ·subst hk;have o0:V.cell? ⟨w.heap.size+1+1,0,none⟩=some (.string p):=(h3.cell 0).trans rfl;have hf:=h3.frozen 0;have HP:=hid (L6 (k-1) v0 hl V h6);rw[gy];by_cases gk:p=(⟨#[]⟩:BA)
    ·subst gk;cases gq:Dm v0 with
     |false=>
      rw[gq]at HP;have HE:Hid (((⟨#[]⟩:BA),0,7)=z):=hid (Eq.symm (ga.out (by simp[f7,gq])));clear gq HS ga
      gi_wp2
      refine⟨trivial,gp _,(qM l' HP.out).mono ?_⟩;rintro e I⟨rfl,hb⟩;have g1:=O.bl hb;have g2:=M.bl hb;have g5:=aE h5 hb;have r0:I.cell? ⟨w,0,none⟩=some (.string ⟨#[]⟩):=(g1.cell 0).trans rfl;have r1:I.cell? ⟨w,1,none⟩=some (.int .i64 0):=(g1.cell 1).trans rfl;have gd:=g1.frozen 0;have gb:=g1.frozen 1;have e0:=aw g2;have ef:=g2.frozen 0
      gi_wp2
      exact gg.out I g1 g2 g5 (Kx.below hb) HE.out.symm
     |true=>
      rw[gq]at HP;have HG:=hid (HS.out (v0,mi,v) (by simp[f7,gq]));clear gq HS ga gg r0 r1 gd gb e0 ef
      gi_wp2
      refine⟨trivial,gp _,(qM l' HP.out).mono ?_⟩;rintro e I⟨rfl,hb⟩;have g1:=O.bl hb;have g2:=M.bl hb;have g3:=h3.bl hb;have g4:=h4.bl hb;have g5:=aE h5 hb;have g6:=h6.below hb;have d1:=(hb.cell (p:=⟨b,1,none⟩) jf).trans c1;have HB:=hid hb;clear c0 c1 o0 hf hb HP;have o0:I.cell? ⟨w.heap.size+1+1,0,none⟩=some (.string ⟨#[]⟩):=(g3.cell 0).trans rfl;have hf:=g3.frozen 0
      gi_wp2
      refine⟨(Kx.below HB.out).trans (Kx.setCell (Cx:=fun k=>w.heap.size<=k/\k<w.heap.size+4) _ (by omega) 0 _),v0,mi,v,HG,gh,?_⟩;refine⟨g1.far (p:=⟨w.heap.size+1+1,0,none⟩) (by show w.heap.size≠w.heap.size+1+1;omega) _,g2.far (p:=⟨w.heap.size+1+1,0,none⟩) (by show w.heap.size+1≠w.heap.size+1+1;omega) _,?_,g4.far (p:=⟨w.heap.size+1+1,0,none⟩) (by show w.heap.size+1+1+1≠w.heap.size+1+1;omega) _,g5.setCell (p:=⟨w.heap.size+1+1,0,none⟩) (by show w.heap.size<=w.heap.size+1+1;omega) _,?_⟩
      ·simpa using g3.set_ 0 (.string v0)
      ·obtain⟨mv,gl⟩:=g6;exact⟨mv,(jM (gF _ ⟨w.heap.size+1+1,0,none⟩ _ _ (by show 0≠w.heap.size+1+1;omega))).trans gl⟩
    ·(have hr:p.toList.isEmpty=false:=by rw[aF];simpa using gk);have HE:Hid (((⟨#[]⟩:BA),0,7)=z):=hid (Eq.symm (ga.out (by simp[f7,gk])));clear HS ga HP
     gi_wp2
     refine⟨trivial,?_⟩
     gi_wp2
     exact gg.out V O M h5 (Kx.refl _ _) HE.out.symm
   ·by_cases g0:k0=(⟨#[103,111]⟩:BA)
    ·subst g0;have HP:=hid (FS v0 hl V h6 (HN.out.below h5));have n0:=aw h4;have nf:=h4.frozen 0;rw[gy];have gx:Hid (f7 (p,mi,v) [(⟨#[103,111]⟩:BA),v0]=if(nj v0).2=0/\v=0 then some (p,(nj v0).1,1)else none):=hid (by simp[f7]);obtain⟨q,hq⟩:∃q,q=nj v0:=⟨_,rfl⟩;rw[<-hq]at HP gx;clear hq;obtain⟨n,er⟩:=q;by_cases ge:er=0/\v=0
     ·obtain⟨rfl,rfl⟩:=ge;have HG:=hid (HS.out (p,n,1) gx.out);clear HS ga gg gx r0 r1 gd gb e0 ef
      gi_wp2
      refine⟨trivial,gp _,(qM l' (callsIn_wide.2 HP.out)).mono ?_⟩;rintro e I⟨rfl,hb⟩;have g1:=O.bl hb;have g2:=M.bl hb;have g3:=h3.bl hb;have g4:=h4.bl hb;have g5:=aE h5 hb;have g6:=h6.below hb;have HB:=hid hb;clear c0 c1 n0 nf hb HP;have n0:=aw g4;have nf:=g4.frozen 0;(have j4:aa (I.setCell ⟨w.heap.size+1+1+1,0,none⟩ (.int .i64 1)) (w.heap.size+1+1+1) 3 #[.int .i64 1]:=by simpa using g4.set_ 0 (.int .i64 1));have j3:=g3.far (p:=⟨w.heap.size+1+1+1,0,none⟩) (by show w.heap.size+1+1≠w.heap.size+1+1+1;omega) (.int .i64 1);have m0:=aw j4;have o1:(I.setCell ⟨w.heap.size+1+1+1,0,none⟩ (.int .i64 1)).cell? ⟨w.heap.size+1+1,1,none⟩=some (.int .i64 mi):=(j3.cell 1).trans rfl;have jn:=j3.frozen 1
      gi_wp2
      refine⟨((Kx.below HB.out).trans (Kx.setCell (Cx:=fun k=>w.heap.size<=k/\k<w.heap.size+4) _ (by omega) 0 _)).trans (Kx.setCell (Cx:=fun k=>w.heap.size<=k/\k<w.heap.size+4) _ (by omega) 1 _),p,n,1,HG,.inr rfl,?_⟩;have q1:=(g1.far (p:=⟨w.heap.size+1+1+1,0,none⟩) (by show w.heap.size≠w.heap.size+1+1+1;omega) (.int .i64 1)).far (p:=⟨w.heap.size+1+1,1,none⟩) (by show w.heap.size≠w.heap.size+1+1;omega) (.int .i64 n);have q2:=(g2.far (p:=⟨w.heap.size+1+1+1,0,none⟩) (by show w.heap.size+1≠w.heap.size+1+1+1;omega) (.int .i64 1)).far (p:=⟨w.heap.size+1+1,1,none⟩) (by show w.heap.size+1≠w.heap.size+1+1;omega) (.int .i64 n);have q4:=j4.far (p:=⟨w.heap.size+1+1,1,none⟩) (by show w.heap.size+1+1+1≠w.heap.size+1+1;omega) (.int .i64 n);have q5:=(g5.setCell (p:=⟨w.heap.size+1+1+1,0,none⟩) (by show w.heap.size<=w.heap.size+1+1+1;omega) (.int .i64 1)).setCell (p:=⟨w.heap.size+1+1,1,none⟩) (by show w.heap.size<=w.heap.size+1+1;omega) (.int .i64 n);refine⟨q1,q2,by simpa using j3.set_ 1 (.int .i64 n),q4,q5,?_⟩;obtain⟨mv,gl⟩:=g6;exact⟨mv,(jM ((gF _ ⟨w.heap.size+1+1,1,none⟩ _ _ (by show 0≠w.heap.size+1+1;omega)).trans (gF _ ⟨w.heap.size+1+1+1,0,none⟩ _ _ (by show 0≠w.heap.size+1+1+1;omega)))).trans gl⟩
     ·have HE:Hid (((⟨#[]⟩:BA),0,7)=z):=hid (Eq.symm (ga.out (gx.out.trans (gE ge))));clear HS ga gx;rcases gh with rfl|rfl
      ·(have gi:¬ er=0:=by simpa using ge);(have jg:(er==0)=false:=by simpa using gi);(have ht:decide (er=0)=false:=by simpa using gi);clear ge
       gi_wp2
       refine⟨trivial,gp _,(qM l' (callsIn_wide.2 HP.out)).mono ?_⟩;rintro e I⟨rfl,hb⟩;have g1:=O.bl hb;have g2:=M.bl hb;have g4:=h4.bl hb;have g5:=aE h5 hb;have HB:=hid hb;clear c0 c1 n0 nf hb HP r0 r1 gd gb e0 ef;have n0:=aw g4;have nf:=g4.frozen 0;have j1:=g1.far (p:=⟨w.heap.size+1+1+1,0,none⟩) (by show w.heap.size≠w.heap.size+1+1+1;omega) (.int .i64 1);have j2:=g2.far (p:=⟨w.heap.size+1+1+1,0,none⟩) (by show w.heap.size+1≠w.heap.size+1+1+1;omega) (.int .i64 1);have r0:(I.setCell ⟨w.heap.size+1+1+1,0,none⟩ (.int .i64 1)).cell? ⟨w,0,none⟩=some (.string ⟨#[]⟩):=(j1.cell 0).trans rfl;have r1:(I.setCell ⟨w.heap.size+1+1+1,0,none⟩ (.int .i64 1)).cell? ⟨w,1,none⟩=some (.int .i64 0):=(j1.cell 1).trans rfl;have gd:=j1.frozen 0;have gb:=j1.frozen 1;have e0:=aw j2;have ef:=j2.frozen 0
       gi_wp2
       exact gg.out _ j1 j2 (g5.setCell (p:=⟨w.heap.size+1+1+1,0,none⟩) (by show w.heap.size<=w.heap.size+1+1+1;omega) _) ((Kx.below HB.out).trans (Kx.setCell (Cx:=fun k=>w.heap.size<=k/\k<w.heap.size+4) _ (by omega) 0 _)) HE.out.symm
      ·clear ge;by_cases gi:er=0
       ·subst gi
        gi_wp2
        refine⟨trivial,gp _,(qM l' (callsIn_wide.2 HP.out)).mono ?_⟩;rintro e I⟨rfl,hb⟩;have g1:=O.bl hb;have g2:=M.bl hb;have g4:=h4.bl hb;have g5:=aE h5 hb;have HB:=hid hb;clear c0 c1 n0 nf hb HP r0 r1 gd gb e0 ef;have n0:=aw g4;have nf:=g4.frozen 0;have j1:=g1.far (p:=⟨w.heap.size+1+1+1,0,none⟩) (by show w.heap.size≠w.heap.size+1+1+1;omega) (.int .i64 2);have j2:=g2.far (p:=⟨w.heap.size+1+1+1,0,none⟩) (by show w.heap.size+1≠w.heap.size+1+1+1;omega) (.int .i64 2);have r0:(I.setCell ⟨w.heap.size+1+1+1,0,none⟩ (.int .i64 2)).cell? ⟨w,0,none⟩=some (.string ⟨#[]⟩):=(j1.cell 0).trans rfl;have r1:(I.setCell ⟨w.heap.size+1+1+1,0,none⟩ (.int .i64 2)).cell? ⟨w,1,none⟩=some (.int .i64 0):=(j1.cell 1).trans rfl;have gd:=j1.frozen 0;have gb:=j1.frozen 1;have e0:=aw j2;have ef:=j2.frozen 0;(have j4:aa (I.setCell ⟨w.heap.size+1+1+1,0,none⟩ (.int .i64 2)) (w.heap.size+1+1+1) 3 #[.int .i64 2]:=by simpa using g4.set_ 0 (.int .i64 2));have m0:=aw j4
        gi_wp2
        exact gg.out _ j1 j2 (g5.setCell (p:=⟨w.heap.size+1+1+1,0,none⟩) (by show w.heap.size<=w.heap.size+1+1+1;omega) _) ((Kx.below HB.out).trans (Kx.setCell (Cx:=fun k=>w.heap.size<=k/\k<w.heap.size+4) _ (by omega) 0 _)) HE.out.symm
       ·(have jg:(er==0)=false:=by simpa using gi);have ht:decide (er=0)=false:=by simpa using gi
        gi_wp2
        refine⟨trivial,gp _,(qM l' (callsIn_wide.2 HP.out)).mono ?_⟩;rintro e I⟨rfl,hb⟩;have g1:=O.bl hb;have g2:=M.bl hb;have g4:=h4.bl hb;have g5:=aE h5 hb;have HB:=hid hb;clear c0 c1 n0 nf hb HP r0 r1 gd gb e0 ef;have n0:=aw g4;have nf:=g4.frozen 0;have j1:=g1.far (p:=⟨w.heap.size+1+1+1,0,none⟩) (by show w.heap.size≠w.heap.size+1+1+1;omega) (.int .i64 2);have j2:=g2.far (p:=⟨w.heap.size+1+1+1,0,none⟩) (by show w.heap.size+1≠w.heap.size+1+1+1;omega) (.int .i64 2);have r0:(I.setCell ⟨w.heap.size+1+1+1,0,none⟩ (.int .i64 2)).cell? ⟨w,0,none⟩=some (.string ⟨#[]⟩):=(j1.cell 0).trans rfl;have r1:(I.setCell ⟨w.heap.size+1+1+1,0,none⟩ (.int .i64 2)).cell? ⟨w,1,none⟩=some (.int .i64 0):=(j1.cell 1).trans rfl;have gd:=j1.frozen 0;have gb:=j1.frozen 1;have e0:=aw j2;have ef:=j2.frozen 0;(have j4:aa (I.setCell ⟨w.heap.size+1+1+1,0,none⟩ (.int .i64 2)) (w.heap.size+1+1+1) 3 #[.int .i64 2]:=by simpa using g4.set_ 0 (.int .i64 2));have m0:=aw j4
        gi_wp2
        exact gg.out _ j1 j2 (g5.setCell (p:=⟨w.heap.size+1+1+1,0,none⟩) (by show w.heap.size<=w.heap.size+1+1+1;omega) _) ((Kx.below HB.out).trans (Kx.setCell (Cx:=fun k=>w.heap.size<=k/\k<w.heap.size+4) _ (by omega) 0 _)) HE.out.symm
    ·by_cases gz:k0=(⟨#[116,111,111,108,99,104,97,105,110]⟩:BA)
     ·subst gz;have HG:=hid (HS.out (p,mi,v) (by simp[f7]));clear HS ga gg r0 r1 gd gb e0 ef;rw[gy]
      gi_wp2
      exact⟨Kx.refl _ _,p,mi,v,HG,gh,O,M,h3,h4,h5,h6⟩
     ·have HE:Hid (((⟨#[]⟩:BA),0,7)=z):=hid (Eq.symm (ga.out (by simp[f7,hk,g0,gz])));(have s1:(k0.toList==[109,111,100,117,108,101])=false:=by rw[<-bN k0 [109,111,100,117,108,101]];exact gV hk);(have s2:(k0.toList==[103,111])=false:=by rw[<-bN k0 [103,111]];exact gV g0);(have s3:(k0.toList==[116,111,111,108,99,104,97,105,110])=false:=by rw[<-bN k0 [116,111,111,108,99,104,97,105,110]];exact gV gz);clear HS ga hk g0 gz;rw[gy]
      gi_wp2
      exact gg.out V O M h5 (Kx.refl _ _) HE.out.symm
  ·have HE:Hid (((⟨#[]⟩:BA),0,7)=z):=hid (Eq.symm (ga.out (by
    unfold f7;split
    ·exact absurd rfl he
    ·rfl)))
   (have jq:decide ((ws.length:Int)=2)=false:=by rw[gH];omega);(have jp:((ws.length:Int)==2)=false:=by rw[gD];omega);clear gj h3 h4 HS ga
   gi_wp2
   exact gg.out V O M h5 (Kx.refl _ _) HE.out.symm
 case retz=>
  rintro D V hD⟨hz,gr,gt,gv⟩gn;have gw:Hid (((⟨#[]⟩:BA),0,7)=z):=hid hz.out.symm;clear hz
  gi_wp2
  generalize V=I at *;have gm:aa (I.putObj D (.deferred none)) w.heap.size 48 #[.string ⟨#[]⟩,.int .i64 0]:=(jL (by omega)).trans gr;have gs:aa (I.putObj D (.deferred none)) (w.heap.size+1) 49 #[.int .i64 7]:=(jL (by omega)).trans gt;have gu:=gv.trans (belowK_b (w:=w) (gA _) I D _ (.deferred none) (by omega) gn rfl rfl);have z0:(I.putObj D (.deferred none)).cell? ⟨w,0,none⟩=some (.string ⟨#[]⟩):=(gm.cell 0).trans rfl;have z1:(I.putObj D (.deferred none)).cell? ⟨w,1,none⟩=some (.int .i64 0):=(gm.cell 1).trans rfl;have z2:=aw gs;refine⟨by simp,.inl ⟨_,_,rfl,qP gn,?_⟩⟩;refine⟨.tuple #[.agg #[.string ⟨#[]⟩,.int .i64 0],.int .i64 7],?_,by rw[<-gw.out],gu⟩;simp[results,results9,go_sem,z0,z1,z2]
 case done=>
  rintro D ys V hD hh⟨p,mi,v,h0,gh,O,M,h3,h4,h5,h6⟩hK;have hg:=h0.out [];rw[vy,hh]at hg;have HG:=hid (show mP ((⟨#[]⟩:BA),16,0) (nD s)=some (p,mi,v)from hg);have o0:V.cell? ⟨w.heap.size+1+1,0,none⟩=some (.string p):=(h3.cell 0).trans rfl;have o1:V.cell? ⟨w.heap.size+1+1,1,none⟩=some (.int .i64 mi):=(h3.cell 1).trans rfl;have r0:V.cell? ⟨w,0,none⟩=some (.string ⟨#[]⟩):=(O.cell 0).trans rfl;have r1:V.cell? ⟨w,1,none⟩=some (.int .i64 0):=(O.cell 1).trans rfl;have gd:=O.frozen 0;have gb:=O.frozen 1;have e0:=aw M;have ef:=M.frozen 0;clear hg hh h0;by_cases gk:p=(⟨#[]⟩:BA)
  ·subst gk;have gw:Hid (((⟨#[]⟩:BA),0,7)=z):=hid (Eq.symm (by rw[HZ.out,HG.out];rfl))
   gi_wp2
   have gr:aa (((V.setCell ⟨w,0,none⟩ (.string ⟨#[]⟩)).setCell ⟨w,1,none⟩ (.int .i64 0)).setCell ⟨w.heap.size+1,0,none⟩ (.int .i64 7)) w.heap.size 48 #[.string ⟨#[]⟩,.int .i64 0]:=(show aa ((V.setCell ⟨w,0,none⟩ (.string ⟨#[]⟩)).setCell ⟨w,1,none⟩ (.int .i64 0)) w.heap.size 48 #[.string ⟨#[]⟩,.int .i64 0]by simpa using(O.set_ 0 (.string ⟨#[]⟩)).set_ 1 (.int .i64 0)).far (p:=⟨w.heap.size+1,0,none⟩) (by show w.heap.size≠w.heap.size+1;omega) _;(have gt:aa (((V.setCell ⟨w,0,none⟩ (.string ⟨#[]⟩)).setCell ⟨w,1,none⟩ (.int .i64 0)).setCell ⟨w.heap.size+1,0,none⟩ (.int .i64 7)) (w.heap.size+1) 49 #[.int .i64 7]:=by simpa using((M.far (p:=⟨w,0,none⟩) (by show w.heap.size+1≠w.heap.size;omega) (.string ⟨#[]⟩)).far (p:=⟨w,1,none⟩) (by show w.heap.size+1≠w.heap.size;omega) (.int .i64 0)).set_ 0 (.int .i64 7));have gv:=((h5.setCell (p:=⟨w,0,none⟩) (gA _) (.string ⟨#[]⟩)).setCell (p:=⟨w,1,none⟩) (gA _) (.int .i64 0)).setCell (p:=⟨w.heap.size+1,0,none⟩) (jC _) (.int .i64 7);have gn:(((V.setCell ⟨w,0,none⟩ (.string ⟨#[]⟩)).setCell ⟨w,1,none⟩ (.int .i64 0)).setCell ⟨w.heap.size+1,0,none⟩ (.int .i64 7)).heap[D]? = some (.deferred (some [])):=
    (gF _ ⟨w.heap.size+1,0,none⟩ _ D (by show D≠w.heap.size+1;omega)).trans ((gF _ ⟨w,1,none⟩ _ D (by show D≠w.heap.size;omega)).trans ((gF _ ⟨w,0,none⟩ _ D (by show D≠w.heap.size;omega)).trans hK))
   generalize((V.setCell ⟨w,0,none⟩ (.string ⟨#[]⟩)).setCell ⟨w,1,none⟩ (.int .i64 0)).setCell ⟨w.heap.size+1,0,none⟩ (.int .i64 7)=I at *;have gm:aa (I.putObj D (.deferred none)) w.heap.size 48 #[.string ⟨#[]⟩,.int .i64 0]:=(jL (by omega)).trans gr;have gs:aa (I.putObj D (.deferred none)) (w.heap.size+1) 49 #[.int .i64 7]:=(jL (by omega)).trans gt;have gu:=gv.trans (belowK_b (w:=w) (gA _) I D _ (.deferred none) (by omega) gn rfl rfl);have z0:(I.putObj D (.deferred none)).cell? ⟨w,0,none⟩=some (.string ⟨#[]⟩):=(gm.cell 0).trans rfl;have z1:(I.putObj D (.deferred none)).cell? ⟨w,1,none⟩=some (.int .i64 0):=(gm.cell 1).trans rfl;have z2:=aw gs;refine⟨by simp,.inl ⟨_,_,rfl,qP gn,?_⟩⟩;refine⟨.tuple #[.agg #[.string ⟨#[]⟩,.int .i64 0],.int .i64 7],?_,by rw[<-gw.out],gu⟩;simp[results,results9,go_sem,z0,z1,z2]
  ·(have hr:p.toList.isEmpty=false:=by rw[aF];simpa using gk);have gw:Hid ((p,mi,0)=z):=hid (Eq.symm (by rw[HZ.out,HG.out];exact gE gk));clear gk
   gi_wp2
   have gr:aa (((V.setCell ⟨w,0,none⟩ (.string p)).setCell ⟨w,1,none⟩ (.int .i64 mi)).setCell ⟨w.heap.size+1,0,none⟩ (.int .i64 0)) w.heap.size 48 #[p,mi]:=(show aa ((V.setCell ⟨w,0,none⟩ (.string p)).setCell ⟨w,1,none⟩ (.int .i64 mi)) w.heap.size 48 #[p,mi]by simpa using(O.set_ 0 (.string p)).set_ 1 (.int .i64 mi)).far (p:=⟨w.heap.size+1,0,none⟩) (by show w.heap.size≠w.heap.size+1;omega) _;(have gt:aa (((V.setCell ⟨w,0,none⟩ (.string p)).setCell ⟨w,1,none⟩ (.int .i64 mi)).setCell ⟨w.heap.size+1,0,none⟩ (.int .i64 0)) (w.heap.size+1) 49 #[.int .i64 0]:=by simpa using((M.far (p:=⟨w,0,none⟩) (by show w.heap.size+1≠w.heap.size;omega) (.string p)).far (p:=⟨w,1,none⟩) (by show w.heap.size+1≠w.heap.size;omega) (.int .i64 mi)).set_ 0 (.int .i64 0));have gv:=((h5.setCell (p:=⟨w,0,none⟩) (gA _) (.string p)).setCell (p:=⟨w,1,none⟩) (gA _) (.int .i64 mi)).setCell (p:=⟨w.heap.size+1,0,none⟩) (jC _) (.int .i64 0);have gn:(((V.setCell ⟨w,0,none⟩ (.string p)).setCell ⟨w,1,none⟩ (.int .i64 mi)).setCell ⟨w.heap.size+1,0,none⟩ (.int .i64 0)).heap[D]? = some (.deferred (some [])):=
    (gF _ ⟨w.heap.size+1,0,none⟩ _ D (by show D≠w.heap.size+1;omega)).trans ((gF _ ⟨w,1,none⟩ _ D (by show D≠w.heap.size;omega)).trans ((gF _ ⟨w,0,none⟩ _ D (by show D≠w.heap.size;omega)).trans hK))
   generalize((V.setCell ⟨w,0,none⟩ (.string p)).setCell ⟨w,1,none⟩ (.int .i64 mi)).setCell ⟨w.heap.size+1,0,none⟩ (.int .i64 0)=I at *;have gm:aa (I.putObj D (.deferred none)) w.heap.size 48 #[p,mi]:=(jL (by omega)).trans gr;have gs:aa (I.putObj D (.deferred none)) (w.heap.size+1) 49 #[.int .i64 0]:=(jL (by omega)).trans gt;have gu:=gv.trans (belowK_b (w:=w) (gA _) I D _ (.deferred none) (by omega) gn rfl rfl);have z0:(I.putObj D (.deferred none)).cell? ⟨w,0,none⟩=some (.string p):=(gm.cell 0).trans rfl;have z1:(I.putObj D (.deferred none)).cell? ⟨w,1,none⟩=some (.int .i64 mi):=(gm.cell 1).trans rfl;have z2:=aw gs;refine⟨by simp,.inl ⟨_,_,rfl,qP gn,?_⟩⟩;refine⟨.tuple #[.agg #[p,mi],.int .i64 0],?_,by rw[<-gw.out],gu⟩;simp[results,results9,go_sem,z0,z1,z2]
theorem wW(A:Option Addr)(n c:Nat)(w:World):Calls prog 10 #[.slice A n c] w fun e w'=>
  e=.returned (.func (.func 15) #[] #[w])/\w'=w.alloc (.cells #[.slice A n c] 35):=by have D:∀(fn:Fn)(first cap:Array Value)(w:World),(Instr.makeFunc fn first cap).run prog w=.ok (.func fn first cap) w:=fun _ _ _ _=>rfl;(go_enter func10,ntmps10);go_wp2_with fail;go_ret;exact⟨rfl,rfl⟩
theorem Kx.grown{Cx:Nat->Prop}{W W':World}{row:Option Nat}(D:W.grownBy W' row)(I:∀g,row=some g->Cx g):Kx Cx W W':=
 ⟨⟨D.os,D.tape,D.output,D.size,fun k hk=>absurd hk (Nat.not_lt_zero k)⟩,fun k hk hne=>D.block k hk fun e=>hne (I k e.symm)⟩
theorem AB{w w':World}{B B':Nat}{e e':TypeId}{s s' n n':Nat}{v v':Value}{xs xs':List Value}(h:w.ownsRow B e s v n xs)(h':w.ownsRow B' e' s' v' n' xs')(J:e≠e')(q:w.grownBy w' v.ownBlock):w'.ownsRow B' e' s' v' n' xs':=by
 refine⟨h'.1,?_⟩;rcases h'.2 with x|⟨g',cap',cur',y,M,D,r'⟩
 ·exact .inl x
 ·refine .inr ⟨g',cap',cur',y,M,(q.block g' (Array.getElem?_eq_some_iff.1 D).1 ?_).trans D,r'⟩;intro I;rcases h.2 with⟨rfl,_⟩|⟨g,cap,cur,rfl,_,O,_⟩
  ·cases I
  ·have I:some g'=some g:=I;injection I with I;subst I;rw[O]at D;injection D with D;injection D with _ ht;exact J ht
theorem fk{w w':World}{B:Nat}{e:TypeId}{s n:Nat}{v:Value}{xs:List Value}(h:w.ownsRow B e s v n xs)(hb:Below w w w'):w'.ownsRow B e s v n xs:=by
 refine⟨h.1,?_⟩;rcases h.2 with J|⟨g,cap,cur,M,I,D,r⟩
 ·exact .inl J
 ·exact .inr ⟨g,cap,cur,M,I,(hb.block g (Array.getElem?_eq_some_iff.1 D).1).trans D,r⟩
theorem ue{w:World}{B:Nat}{e:TypeId}{s n:Nat}{v:Value}{xs:List Value}(h:w.ownsRow B e s v n xs){p:Addr}(O:p.block<B)(u:Value):(w.setCell p u).ownsRow B e s v n xs:=by
 refine⟨h.1,?_⟩;rcases h.2 with J|⟨g,cap,cur,M,I,D,r⟩
 ·exact .inl J
 ·exact .inr ⟨g,cap,cur,M,I,(gF w p u g (by omega)).trans D,r⟩
theorem oD{V w3:World}{o:Obj}{row:Option Nat}(D:(V.alloc o).grownBy w3 row):V.grownBy w3 row:=
 ⟨D.os,D.tape,D.output,gM (by rw[gP];omega) D.size,fun k hk hne=>(D.block k (by rw[gP];omega) hne).trans (gS V _ k hk)⟩
theorem Mb{L:List rU}{pre r:List (rU×Bool)}{x:rU×Bool}(h:pre++x::r=eH L):∃D:pre.length<L.length,x=(L[pre.length],rX L pre.length):=by have I:=qD List.length h;rw[iv,gJ,gI]at I;(have D:pre.length<L.length:=by omega);refine⟨D,?_⟩;rw[<-sN L _ D];(have e:(eH L)[pre.length]? = some x:=by rw[<-h];simp);rw[gO (by rw[iv];exact D)]at e;exact(xn e).symm
theorem Mc:(prog.info? 38).map (fun i=>(i.zero,i.size,i.bytes))=some (some (.agg #[.string ⟨#[]⟩,.string ⟨#[]⟩,.int .i64 0]),3,40):=by kernel_rfl
theorem OU:(prog.info? 43).map (fun i=>(i.zero,i.size,i.bytes))=some (some (.agg #[.string ⟨#[]⟩,.int .i64 0,.int .i64 0,.string ⟨#[]⟩,.slice none 0 0,.int .i64 0]),6,80):=by kernel_rfl
theorem OV{w:World}{base base' size n:Nat}{e:TypeId}{v:Value}{xs:List Value}(h:w.ownsRow base e size v n xs)(hb:base'<=base):w.ownsRow base' e size v n xs:=
 ⟨h.1,h.2.elim Or.inl fun⟨g,cap,cur,D,I,r⟩=>Or.inr ⟨g,cap,cur,D,gM hb I,r⟩⟩
theorem Fi{w:World}{B:Nat}{e:TypeId}{s n:Nat}{v:Value}{xs:List Value}(h:w.ownsRow B e s v n xs){D:Nat}(M:w.heap[D]? = some (.deferred (some [])))(o:Obj):(w.putObj D o).ownsRow B e s v n xs:=by
 refine⟨h.1,?_⟩;rcases h.2 with O|⟨g,cap,cur,q,J,I,r⟩
 ·exact .inl O
 ·refine .inr ⟨g,cap,cur,q,J,(jL ?_).trans I,r⟩;rintro rfl;rw[M]at I;cases I
theorem r8{fn:Func}{q r1:Tmp}(I:fn.results = #[.cell q 31,.tmp r1])(tmps:Array Value){w:World}{g:Nat}{a b v1:Value}(h:tmps.getD q undef=.pointer (some ⟨g,0,none⟩))(x:tmps.getD r1 undef=v1)(hb:aa w g 31 #[a,b]):
  (results fn tmps).run prog w=.ok (.tuple #[.agg #[a,b],v1]) w:=by have O:w.cell? ⟨g,0,none⟩=some a:=(hb.cell 0).trans rfl;have M:w.cell? ⟨g,1,none⟩=some b:=(hb.cell 1).trans rfl;unfold results;rw[I];(have D:tmps[q]?.getD undef=.pointer (some ⟨g,0,none⟩):=by simpa using h);(have J:tmps[r1]?.getD undef=v1:=by simpa using x);simp[D,J,go_sem,O,M]
end
end Go.Proofs.YtcoiialmdncpfaaGreatDoor
