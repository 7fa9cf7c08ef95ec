/- A part of the proof of ClientForks. -/
import Derived.Test.YtdfpoofbgjilgaaGreatVbl
set_option linter.unusedVariables false
set_option linter.unusedSimpArgs false
set_option maxRecDepth 100000
set_option maxHeartbeats 40000000
namespace Go.Proofs.YtdfpoofbgjilgaaGreat
open Go Go.RowKit Sh
section
noncomputable def Ev.d1 (e:Ev) (sd:List UInt8) (tag:UInt8) (bd:List UInt8):Bool:=Ib sd==e.A&&(A7y sd==e.S&&(Ie tag bd==e.M&&(A0l [e.S,e.M]==e.R&&(Bt e.R==e.RB&&A0l [e.F,e.B,e.M]==e.K))))
theorem Ev.own {e:Ev} {sd bd:List UInt8} {tag:UInt8} (h1:e.d1 sd tag bd=true) (h2:e.c2=true) (h3:e.c3=true) (h4:e.c4=true) (h5:e.c5=true) (h6:e.c6=true):Cz (X0 sd) tag bd (Fw sd tag bd)=true:=by
 simp only[Ev.d1,Ev.c2,Ev.c3,Ev.c4,Ev.c5,Ev.c6,Bool.and_eq_true,beq_iff_eq,Bool.not_eq_true']at h1 h2 h3 h4 h5 h6;obtain⟨a1,a2,a3,a4,a5,a6⟩:=h1;obtain⟨b1,b3,b4,b5,b6,b7,b8,b9⟩:=h4;obtain⟨d1,d2,d3,d4,d5,d6⟩:=h5;have aB:X0 sd=e.B:=by unfold X0;rw[a1];exact Tm rfl (by rw[h2];exact beq_self_eq_true _)
 have r:sgR sd [e.M]=e.R:=by unfold sgR;rw[a2,a4]
 have f:sgF sd [e.M]=e.F:=by unfold sgF;rw[r,a5];exact Tm rfl (by rw[h3];exact beq_self_eq_true _)
 have k:sgK sd [e.M]=e.K:=by unfold sgK;rw[f,aB,a6]
 have s:sgS sd [e.M]=e.SB:=by unfold sgS;rw[r,k,a1,b1]
 have sg:Pz sd [e.M]=e.F++e.SB:=by unfold Pz;rw[f,s]
 have x:Uf e.B=u5 e.X:=by rw[D2a B8q b3,Qz b4]
 have ok:Cq e.B=true:=C0u B8q b3 x b5 b6 b7;have p:Ci e.B=uP e.P:=by rw[C5l ok b3 x,A0t b8]
 have aA:Jb (Ci e.B)=false:=by rw[p,B3s A2d];exact b9
 have vf:vfH e.B (e.F++e.SB) [e.M]=e.F:=by unfold vfH vfK;rw[d2,d3,a6,d5,d6,p,C9b,A0t d1];show Eh (Mf e.SB (uP e.Q) e.KB 64)=e.F;rw[A6x A2d C7t,Yk];exact h6
 unfold Cz Fw;rw[aB,a3,sg];unfold Cy;rw[ok,aA,d3,d4,vf,d2];simp
set_option maxRecDepth 100000
set_option maxHeartbeats 0
def Rj:List UInt8:=[88,174,88,102,181,235,193,238,255,47,202,142,46,69,224,207,82,0,21,223,154,197,110,171,106,53,73,16,161,49,205,101]
theorem D6w:(Tr.lf eu9.B (Ah [h1 2])).root=Rj:=by decide +kernel
def cfE:Ev:=⟨[56,180,97,98,220,179,71,157,94,50,93,119,53,14,68,171,201,38,148,147,105,196,233,96,98,80,133,16,153,13,68,99],[250,117,20,121,77,248,129,109,199,175,188,212,248,40,97,112,77,23,179,212,62,152,16,11,154,244,196,67,38,38,94,227],[186,95,247,28,161,115,243,171,244,106,18,134,149,47,143,198,24,10,247,114,164,214,195,244,155,227,240,154,80,239,217,157],[119,105,116,97,110,5,0,0,0,0,0,0,0,40,0,0,0,0,0,0,0,1,88,174,88,102,181,235,193,238,255,47,202,142,46,69,224,207,82,0,21,223,154,197,110,171,106,53,73,16,161,49,205,101],[52,5,112,168,156,33,25,220,247,51,132,161,237,38,119,64,114,1,4,4,141,90,29,104,254,66,242,0,63,11,155,8],[42,46,143,146,135,0,74,151,240,34,48,57,142,103,159,137,101,214,134,37,177,91,163,189,47,33,237,98,203,7,221,6],[171,69,147,46,104,48,87,198,246,130,9,162,204,201,97,118,130,25,10,28,117,107,198,241,207,116,133,190,8,170,80,10],[106,2,194,240,205,213,203,69,185,204,74,82,129,186,23,251,19,126,155,236,225,144,42,4,250,55,179,124,86,163,141,4],[10901526430283148842,9916758765035594480,13664866510769149541,494560104200085807],[14291945166499693995,8530321049945473782,17421730359255112066,743280893049009359],⟨971560743034810,757298521609598,1086490949598398,507950245040697,525149762334478⟩,⟨1089742090830330,31737137541468,491549714072886,956982402589210,886473368411442⟩,⟨⟨1162057722854899,2220062676143779,1760250099612361,1294817411096037,1365326445273805⟩,⟨971560743034810,757298521609598,1086490949598398,507950245040697,525149762334478⟩,⟨1,0,0,0,0⟩,⟨857030014994711,219498300874702,1238536004808370,1518583693673948,2072046173779095⟩⟩,⟨⟨1089742090830330,31737137541468,491549714072886,956982402589210,886473368411442⟩,⟨971560743034810,757298521609598,1086490949598398,507950245040697,525149762334478⟩,⟨1,0,0,0,0⟩,⟨1394769798690518,2032301512810545,1013263808876877,733216120011299,179753639906152⟩⟩⟩
theorem F7d:Cz (X0 (Hh 1 2 7)) 5 (J3 1++Rj) (Fw (Hh 1 2 7) 5 (J3 1++Rj))=true:=Ev.own (e:=cfE) (by decide +kernel) (by decide +kernel) (by decide +kernel) (by decide +kernel) (by decide +kernel) (by decide +kernel)
end
end Go.Proofs.YtdfpoofbgjilgaaGreat
