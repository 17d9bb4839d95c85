import Derived.Test.YtmngjhagbjgmfaaGreatRk
import Derived.Lib.ConvBytes
import Derived.Laws.BytesString
import Derived.Laws.Cover3
set_option linter.all false
open Go renaming Operand->aZ,TypeId->aX,Value->ah
open List renaming flatten_cons->oW,length_map->qX,map_cons->gu
open Nat renaming le_refl->bw
open Option renaming some->aa
namespace Go.Proofs.YtmngjhagbjgmfaaGreat
open Go Go.RowKit Dp
namespace Rx
section
variable {D:Nat->Type} [∀n,ad (D n)]
variable {P:Program} {T:bb D} {Qx:Exit->Act->World->Prop} {U:Nat->Prop} {aq:Nat} {γ:Gh D} {w:World} {sl:List (Nat×AV D)} {L:List (Nat×ah)} {ob:List (Nat×Option (AO D))}
 {d:Option Tmp} {ty:aX} {pos:String} {af:Array Edge} {gd:Option (Nat×Bool)} {e:cW D} {l:List Nat}
def OW.arA [Rd]{t:aX}{s:ByteArray}{o:aZ}(hu:P.underlying t=aa .string)(hx:ev L o=aa (.string s)):
  OW P Qx L ⟨d,.call {callee:= .builtin .len,args:= #[o],argTypes:= #[t]},ty,pos,af,gd⟩ w (λv' w'=>v'= .int .i64 (rc s)∧w'=w):=by
 refine OW.run λa ha=>⟨_,w,?_,rfl,rfl⟩
 simp[execOp,resolve,invoke,builtin,Builtin.len_,run_underlying hu,ha _ _ hx,goInt,rc]
def OW.ass [Rd]{t:aX}{s:ByteArray}{x i:aZ}{j c:Int}{ki:IntKind}(hu:P.underlying t=aa .string)(hx:ev L x=aa (.string s))(hi:ev L i=aa (.int ki j))(hc:KN s j=aa c):
  OW P Qx L ⟨d,.index t x i,ty,pos,af,gd⟩ w (λv' w'=>v'= .int .u8 c∧w'=w):=by
 refine OW.run λa ha=>⟨_,w,?_,rfl,rfl⟩
 unfold KN at hc
 split at hc
 case isFalse=>cases hc
 rename_i h0
 split at hc
 case h_2=>cases hc
 rename_i b hb
 cases hc
 have iw:s[j.toNat]? =aa b:=hb
 simp[execOp,Instr.index,asIntOf,run_underlying hu,ha _ _ hx,ha _ _ hi,h0,iw]
def aqI [Rd]{t te t2:aX}(hu:P.underlying t=aa (.slice te))(hx:Cx U aq γ w sl L ob){op:BinOp}{x y:aZ}{n:Nat}{xs:List (D n)}{K:List Nat}{g:Nat}{p:Bool}(ha:eQ sl x=aa (.c (.one (.vb n xs K g p))))(hb:eQ sl y=aa (.c (.one .bE)))
  (h:Q.R ob (match op with| .eql=>bX (bv p (aq+16))| .neq=>bX (bv (EU p) (aq+16))|_=>Q.fail) l e):
  OW P Qx L ⟨d,.binOp op t x y t2,ty,pos,af,gd⟩ w (λv w'=>∃γ',dP U aq γ w ob e γ' v w'):=by
 obtain⟨u,h1,h2⟩:=cz hx.sr ha
 obtain⟨v,h3,h4⟩:=cz hx.sr hb
 have h4:v= .slice none 0 0:=h4
 subst h4
 obtain⟨q,cap,rfl,_⟩:=uW h2.1.1
 have hp:p=S8 (.slice q xs.length cap):=h2.2
 have hr:=run_equal_slice_nil (P:=P) w t te q xs.length cap hu
 have hq:q.isNone=p:=by rw[hp];cases q<;>rfl
 rw[hq]at hr
 have he:(binOp .eql t (.slice q xs.length cap) (.slice none 0 0)).run P w= .ok (.bool p) w:=by simp only[binOp,Sem.run_bind,hr,Result.andThen,Sem.run_pure]
 have hn:(binOp .neq t (.slice q xs.length cap) (.slice none 0 0)).run P w= .ok (.bool (!p)) w:=by simp only[binOp,Sem.run_bind,hr,Result.andThen,Sem.run_pure]
 split at h
 ·obtain⟨_,rfl⟩:=h;exact dj (OW.pK h1 h3 (by simp[eqGuard]) he) (ei hx rfl)
 ·obtain⟨_,rfl⟩:=h;exact dj (OW.pK h1 h3 (by simp[eqGuard]) hn) (ei hx rfl)
 ·exact(h:False).elim
def aq9{n:Nat}(h:T.lv n=[.int .u8])(x:D n):T.out n x=[⟨.int .u8,tF T n h x⟩]:=by unfold bb.out tF;generalize T.C_ n x=y;revert y h;generalize T.lv n=l;intro h;subst h;intro y;rfl
def alK(hR:cE T){n:Nat}(h:T.lv n=[.int .u8])(b:Int):tF T n h (De T n h b)=b:=by
 unfold tF De;rw[hR.LS];have:∀(l:List Lf) (e:l=[.int .u8]) (y:HL D [.int .u8]),(e▸(e.symm▸y:HL D l):HL D [.int .u8])=y:=by intro l e y;subst e;rfl
 exact this _ h b
def aaH(hR:cE T){n:Nat}(h:T.lv n=[.int .u8]){S:Nat->Prop}{cs:List ah}{x:D n}:ad.rd S w cs x↔cs=[.int .u8 (tF T n h x)]:=by
 rw[hR.rd,aq9 h];constructor
 ·intro h;match cs,h with
  |[v],h=>rw[show v= .int .u8 _ from h.1]
  |[],h=>exact h.elim
  |_::_::_,h=>exact h.2.elim
 ·rintro rfl;exact⟨rfl,trivial⟩
def aBS [Rd](hR:cE T)(hx:Cx U aq γ w sl L ob){s t te:aX}{n:Nat}{o:aZ}{x:ByteArray}{xs:List (D n)}(hs:P.underlying s=aa .string)(ht:P.underlying t=aa (.slice te))(hte:P.underlying te=aa (.int .u8))(nI:T.lv n=[.int .u8])
  (h1:ev L o=aa (.string x)) (eF:KO (De T n nI) x=aa xs):
  OW P Qx L ⟨d,.convert s t o,ty,pos,af,gd⟩ w (λv w'=>∃γ',dP U aq γ w ob ⟨.c (.one (.v (.sl n) xs [1] (aq+16))),[],[]⟩ γ' v w'):=by
 unfold KO at eF
 split at eF
 case isFalse=>cases eF
 rename_i eK
 cases eF
 refine OW.run λa ha=>⟨.slice (aa ⟨w.heap.size,0,none⟩) x.size (grownCap w x.size 0 te),Lib.bytesWorld w te x,by simp only[execOp,ha _ _ h1,Sem.run_bind,Lib.run_convert_string_bytes w s t te x hs ht hte,Result.andThen,Sem.run_pure],?_⟩
 have b6:bO [] [aq] γ.o w (grow γ.o w aq) (Lib.bytesWorld w te x):=by refine⟨rfl,rfl,rfl,?_,λb hb=>by simp[grow,hb],λb h1 _=>by simp[grow,Nat.not_lt.2 h1],λb hb _=>Lib.bytesWorld_at_old w te x b hb⟩;rw[Lib.bytesWorld_size];omega
 have sH:=grownCap_ge w x.size 0 te
 have hle:=grownCap_le_maxLen w x.size 0 te (by unfold maxLen;omega)
 have DF:∀{i:Nat},U i->i≠aq:=λhi h=>hx.fresh aq (bw _) (by omega) (h▸hi)
 have hlen:x.data.toList.length=x.size:=by rw[Array.length_toList];rfl
 have hrv:Rv (In (λb=>rel [(aq,1)] (grow γ.o w aq b)) [1]) (Lib.bytesWorld w te x) (.slice (aa ⟨w.heap.size,0,none⟩) x.size (grownCap w x.size 0 te)) ((x.data.toList.map λb=>De T n nI (b.toNat:Int)):List (D n)):=by
  refine⟨[_],rfl,aa ⟨w.heap.size,0,none⟩,_,by rw[qX,hlen],by rw[qX,hlen];exact sH,hle,.inr ⟨_,x.data.toList.map λb=>[ah.int .u8 (b.toNat:Int)],rfl,?_,?_,?_⟩⟩
  ·show rel [(aq,1)] (grow γ.o w aq w.heap.size)∈[1];rw[sN _ _ _ _ (bw _)];simp[rel,aE]
  ·induction x.data.toList with
   |nil=>trivial
   |cons b l ih=>exact⟨(aaH hR nI).2 (by rw[alK hR]),ih⟩
  ·intro j u hj;have eH:∀(l:List UInt8),(l.map λb=>[ah.int .u8 (b.toNat:Int)]).flatten=l.map λb=>ah.int .u8 (b.toNat:Int):=by
    intro l;induction l with
    |nil=>rfl
    |cons b l ih=>simp only[gu,oW,ih];rfl
   rw[eH,List.getElem?_map]at hj;cases hb:x.data.toList[j]? with
   |none=>rw[hb]at hj;cases hj
   |some b=>
    rw[hb]at hj;cases hj;have dh:j<x.size:=by rw[<-hlen];exact(List.getElem?_eq_some_iff.1 hb).1
    have:=Lib.bytesWorld_cell w te x j dh;rw[show(Addr.mk w.heap.size 0 none).add j=⟨w.heap.size,j,none⟩from by simp[Addr.add];try omega,this];simp[List.getD,hb]
 refine⟨_,mkPost (M:=[]) (N:=[aq]) (ps:=[(aq,1)]) (g':=γ.g) (v':=ga γ.v (aq+16) [⟨.sl n,x.data.toList.map λb=>De T n nI (b.toNat:Int)⟩]) hx.ob b6 (by simp) (by simp) ?_ hx.cI (λ_ _=>rfl) (λi hi=>sq hx (by simp) hi) ?_ (λj x hj=>by simp[aE]at hj)⟩
 ·intro p hp;simp only[List.mem_singleton]at hp;subst hp;exact⟨hx.cI,λh=>(DF h rfl).elim,.inl rfl⟩
 ·exact⟨hrv,mr (γ:=γ) (i:=0) rfl (by omega) rfl,λx hx=>by simp at hx;omega⟩
def anA [Rd](hR:cE T)(hx:Cx U aq γ w sl L ob){s t se:aX}{n:Nat}{o:aZ}{xs:List (D n)}{v:ah}{S:Nat->Prop}(hs:P.underlying s=aa (.slice se))(hse:P.underlying se=aa (.int .u8))(ht:P.underlying t=aa .string)(nI:T.lv n=[.int .u8])
  (h1:ev L o=aa v) (hv:fB S w v xs):
  OW P Qx L ⟨d,.convert s t o,ty,pos,af,gd⟩ w (λv w'=>∃γ',dP U aq γ w ob ⟨.c (.one (.v .str (xl (tF T n nI) xs) [] (aq+16))),[],[]⟩ γ' v w'):=by
 obtain⟨p,cap,rfl,w5⟩:=hv
 have hb:∀(q:Option Addr) (h0:xs=[]),(Conv.bytesToString (.slice q xs.length cap)).run P w= .ok (.string (xl (tF T n nI) xs)) w:=by
  intro q h0;subst h0;cases q with
  |none=>simp[Conv.bytesToString,xl,Sem.run_pure]
  |some a=>exact run_bytesToString w a 0 cap [] (by simp[loadCells,loadCellsFrom])
 have hc:(Conv.bytesToString (.slice p xs.length cap)).run P w= .ok (.string (xl (tF T n nI) xs)) w:=by
  rcases w5 with h0|⟨a,aJ,rfl,hr,ui⟩
  ·exact hb p h0
  ·have eH:∀{aJ:List (List ah)} {xs:List (D n)},cn (ad.rd S w) aJ xs->aJ.flatten=(xs.map (tF T n nI)).map (ah.int .u8):=by
    intro aJ;induction aJ with
    |nil=>intro xs h;cases xs with
     |nil=>rfl
     |cons _ _=>exact h.elim
    |cons c aJ ih=>intro xs h;cases xs with
     |nil=>exact h.elim
     |cons x xs=>have h1:=(aaH hR nI).1 h.1;subst h1;simp only[oW,ih h.2,gu];rfl
   have eH:=eH hr;have hl:=run_loadCells_list (P:=P) w a aJ.flatten ui;rw[eH]at hl;simp only[qX]at hl;exact run_bytesToString w a xs.length cap _ hl
 refine dj (v:= .string (xl (tF T n nI) xs)) (OW.run λa ha=>⟨_,w,?_,rfl,rfl⟩) (ei hx rfl)
 simp only[execOp,ha _ _ h1,Sem.run_bind,run_convert_bytes_string w s t se p xs.length cap hs hse ht,hc,Result.andThen,Sem.run_pure]
