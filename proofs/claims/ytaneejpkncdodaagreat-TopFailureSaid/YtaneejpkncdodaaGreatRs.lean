import Derived.Test.YtaneejpkncdodaaGreatRk
import Derived.Lib.ConvBytes
import Derived.Laws.BytesString
import Derived.Laws.Cover3
set_option linter.unusedVariables false
set_option linter.unusedSimpArgs false
set_option linter.unusedSectionVars false
namespace Go.Proofs.YtaneejpkncdodaaGreat
open Go Go.RowKit Dp
namespace Rx
section
variable {D:Nat→Type} [∀n,ad (D n)]
variable {P:Program} {T:aV D} {Qx:Exit→Act→World→Prop} {U:Nat→Prop} {aj:Nat} {γ:Gh D} {w:World} {sl:List (Nat×AV D)} {L:List (Nat×Value)} {ob:List (Nat×Option (AO D))}
 {d:Option Tmp} {ty:TypeId} {pos:String} {af:Array Edge} {gd:Option (Nat×Bool)} {e:bX D} {l:List Nat}
theorem OW.ac2 [Rd]{t:TypeId}{s:ByteArray}{o:Operand}(hu:P.underlying t=some .string)(hx:ev L o=some (.string s)):
  OW P Qx L ⟨d,.call {callee:= .builtin .len,args:= #[o],argTypes:= #[t]},ty,pos,af,gd⟩ w (fun v' w'=>v'= .int .i64 (Jb s)∧w'=w):=by
 refine OW.run fun a ha=>⟨_,w, ?_,rfl,rfl⟩
 simp[execOp,resolve,invoke,builtin,Builtin.len_,run_underlying hu,ha _ _ hx,goInt,Jb]
theorem OW.adO [Rd]{t:TypeId}{s:ByteArray}{x i:Operand}{j c:Int}(hu:P.underlying t=some .string)(hx:ev L x=some (.string s))(hi:ev L i=some (.int .i64 j))(hc:Jc s j=some c):
  OW P Qx L ⟨d,.index t x i,ty,pos,af,gd⟩ w (fun v' w'=>v'= .int .u8 c∧w'=w):=by
 refine OW.run fun a ha=>⟨_,w, ?_,rfl,rfl⟩
 unfold Jc at hc
 split at hc
 case isFalse=>cases hc
 rename_i h0
 split at hc
 case h_2=>cases hc
 rename_i b hb
 cases hc
 have dS:s[j.toNat]? =some b:=hb
 simp[execOp,Instr.index,asIntOf,run_underlying hu,ha _ _ hx,ha _ _ hi,h0,dS]
theorem acf [Rd]{t te t2:TypeId}(hu:P.underlying t=some (.slice te))(hx:Cx U aj γ w sl L ob){op:BinOp}{x y:Operand}{n:Nat}{xs:List (D n)}{K:List Nat}{g:Nat}{p:Bool}(ha:eb sl x=some (.c (.one (.vb n xs K g p))))(hb:eb sl y=some (.c (.one .bn)))
  (h:Q.R ob (match op with| .eql=>bp (bv p (aj+16))| .neq=>bp (bv (yI p) (aj+16))|_=>Q.fail) l e):
  OW P Qx L ⟨d,.binOp op t x y t2,ty,pos,af,gd⟩ w (fun v w'=>∃γ',cO U aj γ w ob e γ' v w'):=by
 obtain⟨u,h1,h2⟩:=bQ hx.sr ha
 obtain⟨v,h3,h4⟩:=bQ hx.sr hb
 have h4:v= .slice none 0 0:=h4
 subst h4
 obtain⟨q,cap,rfl,_⟩:=n_ h2.1.1
 have hp:p=Kb (.slice q xs.length cap):=h2.2
 have hr:=run_equal_slice_nil (P:=P) w t te q xs.length cap hu
 have hq:q.isNone=p:=by rw[hp];cases q<;>rfl
 rw[hq] at hr
 have he:(binOp .eql t (.slice q xs.length cap) (.slice none 0 0)).run P w= .ok (.bool p) w:=by
  simp only[binOp,Sem.run_bind,hr,Result.andThen,Sem.run_pure]
 have hn:(binOp .neq t (.slice q xs.length cap) (.slice none 0 0)).run P w= .ok (.bool (!p)) w:=by
  simp only[binOp,Sem.run_bind,hr,Result.andThen,Sem.run_pure]
 split at h
 · obtain⟨_,rfl⟩:=h
   exact cm (OW.lz h1 h3 (by simp[eqGuard]) he) (cY hx rfl)
 · obtain⟨_,rfl⟩:=h
   exact cm (OW.lz h1 h3 (by simp[eqGuard]) hn) (cY hx rfl)
 · exact(h:False).elim
theorem acG{n:Nat}(h:T.lv n=[.int .u8])(x:D n):T.out n x=[⟨.int .u8,nT T n h x⟩]:=by
 unfold aV.out nT
 generalize T.wV n x=y
 revert y h
 generalize T.lv n=l
 intro h
 subst h
 intro y
 rfl
theorem YM(hR:bR T){n:Nat}(h:T.lv n=[.int .u8])(b:Int):nT T n h (w8 T n h b)=b:=by
 unfold nT w8
 rw[hR.EE]
 have:∀(l:List Lf) (e:l=[.int .u8]) (y:HL D [.int .u8]),(e▸(e.symm▸y:HL D l):HL D [.int .u8])=y:=by
  intro l e y
  subst e
  rfl
 exact this _ h b
theorem Qf(hR:bR T){n:Nat}(h:T.lv n=[.int .u8]){S:Nat→Prop}{cs:List Value}{x:D n}:ad.rd S w cs x↔cs=[.int .u8 (nT T n h x)]:=by
 rw[hR.rd,acG h]
 constructor
 · intro h
   match cs,h with
   |[v],h=>rw[show v= .int .u8 _ from h.1]
   |[],h=>exact h.elim
   |_::_::_,h=>exact h.2.elim
 · rintro rfl
   exact⟨rfl,trivial⟩
theorem akR [Rd](hR:bR T)(hx:Cx U aj γ w sl L ob){s t te:TypeId}{n:Nat}{o:Operand}{x:ByteArray}{xs:List (D n)}(hs:P.underlying s=some .string)(ht:P.underlying t=some (.slice te))(Fe:P.underlying te=some (.int .u8))(jV:T.lv n=[.int .u8])
  (h1:ev L o=some (.string x)) (dx:Jd (w8 T n jV) x=some xs):
  OW P Qx L ⟨d,.convert s t o,ty,pos,af,gd⟩ w (fun v w'=>∃γ',cO U aj γ w ob ⟨.c (.one (.v (.sl n) xs [1] (aj+16))),[],[]⟩ γ' v w'):=by
 unfold Jd at dx
 split at dx
 case isFalse=>cases dx
 rename_i dy
 cases dx
 refine OW.run fun a ha=>⟨.slice (some ⟨w.heap.size,0,none⟩) x.size (grownCap w x.size 0 te),Lib.bytesWorld w te x,by simp only[execOp,ha _ _ h1,Sem.run_bind,Lib.run_convert_string_bytes w s t te x hs ht Fe,Result.andThen,Sem.run_pure], ?_⟩
 have bh:ba [] [aj] γ.o w (grow γ.o w aj) (Lib.bytesWorld w te x):=by
  refine⟨rfl,rfl,rfl, ?_,fun b hb=>by simp[grow,hb],fun b h1 _=>by simp[grow,Nat.not_lt.2 h1],fun b hb _=>Lib.bytesWorld_at_old w te x b hb⟩
  rw[Lib.bytesWorld_size]
  omega
 have nB:=grownCap_ge w x.size 0 te
 have hle:=grownCap_le_maxLen w x.size 0 te (by unfold maxLen;omega)
 have xA:∀{i:Nat},U i→i≠aj:=fun hi h=>hx.fresh aj (Nat.le_refl _) (by omega) (h▸hi)
 have hlen:x.data.toList.length=x.size:=by rw[Array.length_toList];rfl
 have hrv:Rv (In (fun b=>rel [(aj,1)] (grow γ.o w aj b)) [1]) (Lib.bytesWorld w te x) (.slice (some ⟨w.heap.size,0,none⟩) x.size (grownCap w x.size 0 te)) ((x.data.toList.map fun b=>w8 T n jV (b.toNat:Int)):List (D n)):=by
  refine⟨[_],rfl,some ⟨w.heap.size,0,none⟩,_,by rw[List.length_map,hlen],by rw[List.length_map,hlen];exact nB,hle,.inr ⟨_,x.data.toList.map fun b=>[Value.int .u8 (b.toNat:Int)],rfl, ?_, ?_, ?_⟩⟩
  · show rel [(aj,1)] (grow γ.o w aj w.heap.size)∈[1]
    rw[nD _ _ _ _ (Nat.le_refl _)]
    simp[rel,aq]
  · induction x.data.toList with
    |nil=>trivial
    |cons b l ih=>exact⟨(Qf hR jV).2 (by rw[YM hR]),ih⟩
  · intro j u hj
    have dG:∀(l:List UInt8),(l.map fun b=>[Value.int .u8 (b.toNat:Int)]).flatten=l.map fun b=>Value.int .u8 (b.toNat:Int):=by
     intro l
     induction l with
     |nil=>rfl
     |cons b l ih=>simp only[List.map_cons,List.flatten_cons,ih];rfl
    rw[dG,List.getElem?_map] at hj
    cases hb:x.data.toList[j]? with
    |none=>rw[hb] at hj;cases hj
    |some b=>
     rw[hb] at hj
     cases hj
     have bZ:j<x.size:=by rw[←hlen];exact(List.getElem?_eq_some_iff.1 hb).1
     have:=Lib.bytesWorld_cell w te x j bZ
     rw[show(Addr.mk w.heap.size 0 none).add j=⟨w.heap.size,j,none⟩ from by simp[Addr.add];try omega,this]
     simp[List.getD,hb]
 refine⟨_,mkPost (M:=[]) (N:=[aj]) (ps:=[(aj,1)]) (g':=γ.g) (v':=ed γ.v (aj+16) [⟨.sl n,x.data.toList.map fun b=>w8 T n jV (b.toNat:Int)⟩]) hx.ob bh (by simp) (by simp) ?_ hx.bS (fun _ _=>rfl) (fun i hi=>nl hx (by simp) hi) ?_ (fun j x hj=>by simp[aq] at hj)⟩
 · intro p hp
   simp only[List.mem_singleton] at hp
   subst hp
   exact⟨hx.bS,fun h=>(xA h rfl).elim,.inl rfl⟩
 · exact⟨hrv,jN (γ:=γ) (i:=0) rfl (by omega) rfl,fun x hx=>by simp at hx;omega⟩
theorem aaa [Rd](hR:bR T)(hx:Cx U aj γ w sl L ob){s t se:TypeId}{n:Nat}{o:Operand}{xs:List (D n)}{v:Value}{S:Nat→Prop}(hs:P.underlying s=some (.slice se))(hse:P.underlying se=some (.int .u8))(ht:P.underlying t=some .string)(jV:T.lv n=[.int .u8])
  (h1:ev L o=some v) (hv:dM S w v xs):
  OW P Qx L ⟨d,.convert s t o,ty,pos,af,gd⟩ w (fun v w'=>∃γ',cO U aj γ w ob ⟨.c (.one (.v .str (yz (nT T n jV) xs) [] (aj+16))),[],[]⟩ γ' v w'):=by
 obtain⟨p,cap,rfl,uL⟩:=hv
 have hb:∀(q:Option Addr) (h0:xs=[]),(Conv.bytesToString (.slice q xs.length cap)).run P w= .ok (.string (yz (nT T n jV) xs)) w:=by
  intro q h0
  subst h0
  cases q with
  |none=>simp[Conv.bytesToString,yz,Sem.run_pure]
  |some a=>exact run_bytesToString w a 0 cap [] (by simp[loadCells,loadCellsFrom])
 have hc:(Conv.bytesToString (.slice p xs.length cap)).run P w= .ok (.string (yz (nT T n jV) xs)) w:=by
  rcases uL with h0|⟨a,aw,rfl,hr,oF⟩
  · exact hb p h0
  · have dG:∀{aw:List (List Value)} {xs:List (D n)},bz (ad.rd S w) aw xs→aw.flatten=(xs.map (nT T n jV)).map (Value.int .u8):=by
     intro aw
     induction aw with
     |nil=>intro xs h;cases xs with
      |nil=>rfl
      |cons _ _=>exact h.elim
     |cons c aw ih=>intro xs h;cases xs with
      |nil=>exact h.elim
      |cons x xs=>
       have h1:=(Qf hR jV).1 h.1
       subst h1
       simp only[List.flatten_cons,ih h.2,List.map_cons]
       rfl
    have dG:=dG hr
    have hl:=run_loadCells_list (P:=P) w a aw.flatten oF
    rw[dG] at hl
    simp only[List.length_map] at hl
    exact run_bytesToString w a xs.length cap _ hl
 refine cm (v:= .string (yz (nT T n jV) xs)) (OW.run fun a ha=>⟨_,w, ?_,rfl,rfl⟩) (cY hx rfl)
 simp only[execOp,ha _ _ h1,Sem.run_bind,run_convert_bytes_string w s t se p xs.length cap hs hse ht,hc,Result.andThen,Sem.run_pure]
end
end Rx
end Go.Proofs.YtaneejpkncdodaaGreat
